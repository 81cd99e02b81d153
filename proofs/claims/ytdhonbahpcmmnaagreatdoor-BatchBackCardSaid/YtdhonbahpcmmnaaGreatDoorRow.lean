/- Layer 7's laws, from the statements' arguments. -/
import Derived.Test.YtdhonbahpcmmnaaGreatDoorSerQ
import Derived.SizedLaws
import Derived.ChangeSlices
import Derived.Test.YtdhonbahpcmmnaaGreatDoorApp
import Derived.WalkKit
import Derived.ProofKit
section
set_option linter.unusedVariables false
set_option linter.unusedSimpArgs false
namespace Go.Proofs.YtdhonbahpcmmnaaGreatDoor.Bat
open Go Go.RowKit Go.ChangeShapes Go.WideShapes Go.Proofs.YtdhonbahpcmmnaaGreatDoor Go.Proofs.YtdhonbahpcmmnaaGreatDoor.Eng Go.Proofs.YtdhonbahpcmmnaaGreatDoor.Line Go.Proofs.YtdhonbahpcmmnaaGreatDoorW.PrintWords Go.Proofs.YtdhonbahpcmmnaaGreatDoorW.PrintLast
def natK : Kd Nat := Kd.iso (Kd.int .u64) fun n => (n : Int)
theorem opens_nat {P : Program} {t : TypeId} (ht : P.underlying t = some (.int .u64)) : Opens.Opens P natK (fun n => n < 18446744073709551616) t := by
 intro H enc W base spare held fuel cs x h
 obtain ⟨n, rfl, _, hw⟩ := DataW.trod_int ht h
 have hb := bounds_u64 hw
 refine ⟨n.toNat, ?_, by omega⟩
 show (Kd.int .u64).K W ((n.toNat : Nat) : Int) _
 have e : ((n.toNat : Nat) : Int) = n := by omega
 rw [e]
 rfl
abbrev RwA : Type := ByteArray × Int × Nat × Int × Int × Int × Bool × List Nat
abbrev RwP : Kd RwA := Kd.pair Kd.string (Kd.pair (Kd.int .i64) (Kd.pair natK (Kd.pair (Kd.int .i64) (Kd.pair (Kd.int .i64) (Kd.pair (Kd.int .i64) (Kd.pair Kd.bool (Kd.slice 46 natK)))))))
abbrev RwK : Kd RwA := Kd.iso RwP id
def goodRw (a : RwA) : Prop := a.1.size ≤ 9223372036854775807 ∧ (Lit.int .i64 a.2.1).wf = true ∧ a.2.2.1 < 18446744073709551616 ∧ (Lit.int .i64 a.2.2.2.1).wf = true ∧ (Lit.int .i64 a.2.2.2.2.1).wf = true ∧ (Lit.int .i64 a.2.2.2.2.2.1).wf = true ∧ True ∧ a.2.2.2.2.2.2.2.length ≤ 9223372036854775807 ∧ ∀ x ∈ a.2.2.2.2.2.2.2, x < 18446744073709551616
abbrev BtA : Type := Int × Int × List RwA
abbrev BtP : Kd BtA := Kd.pair (Kd.int .i64) (Kd.pair (Kd.int .i64) (Kd.slice 54 RwK))
abbrev BtK : Kd BtA := Kd.iso BtP id
def goodBt (a : BtA) : Prop := (Lit.int .i64 a.1).wf = true ∧ (Lit.int .i64 a.2.1).wf = true ∧ a.2.2.length ≤ 9223372036854775807 ∧ ∀ x ∈ a.2.2, goodRw x
set_option maxRecDepth 100000 in
theorem opens_row : Opens.Opens Tryz.prog RwK goodRw 54 := Opens.opens_struct (P := Tryz.prog) (β := RwA) (d := RwP) (t := 54) id id (fun _ => rfl) Tryz.underlying54 (by kernel_rfl)
 (Opens.opensF_cons rfl (by kernel_rfl) (Opens.opens_string Tryz.underlying9) (Opens.opensF_cons rfl (by kernel_rfl) (Opens.opens_int Tryz.underlying3) (Opens.opensF_cons rfl (by kernel_rfl) (opens_nat Tryz.underlying46) (Opens.opensF_cons rfl (by kernel_rfl) (Opens.opens_int Tryz.underlying2) (Opens.opensF_cons rfl (by kernel_rfl) (Opens.opens_int Tryz.underlying2) (Opens.opensF_cons rfl (by kernel_rfl) (Opens.opens_int Tryz.underlying2) (Opens.opensF_cons rfl (by kernel_rfl) (Opens.opens_bool Tryz.underlying4) (Opens.opensF_one rfl (by kernel_rfl) (Opens.opens_slice Tryz.underlying52 (by kernel_rfl) (opens_nat Tryz.underlying46))))))))))
set_option maxRecDepth 100000 in
theorem opens_batch : Opens.Opens Tryz.prog BtK goodBt 24 := Opens.opens_struct (P := Tryz.prog) (β := BtA) (d := BtP) (t := 24) id id (fun _ => rfl) Tryz.underlying24 (by kernel_rfl)
 (Opens.opensF_cons rfl (by kernel_rfl) (Opens.opens_int Tryz.underlying3) (Opens.opensF_cons rfl (by kernel_rfl) (Opens.opens_int Tryz.underlying2) (Opens.opensF_one rfl (by kernel_rfl) (Opens.opens_slice Tryz.underlying22 (by kernel_rfl) opens_row))))
def toRw (a : RwA) : Rw := ⟨bs a.1, a.2.1, a.2.2.1, a.2.2.2.1, a.2.2.2.2.1, a.2.2.2.2.2.1, a.2.2.2.2.2.2.1, a.2.2.2.2.2.2.2⟩
theorem toRw_in {a : RwA} (h : goodRw a) : (toRw a).In := ⟨h.2.2.1, bounds_i64 h.2.2.2.1, bounds_i64 h.2.2.2.2.1, bounds_i64 h.2.2.2.2.2.1, h.2.2.2.2.2.2.2.2⟩
theorem open_row {w : World} {a : RwA} {cs : List Value} (h : RwK.K w a cs) : ∃ x : RX, cs = cW x ∧ x.1 = toRw a ∧ x.1.bk.length ≤ x.2.2 ∧ ∃ F, VX cN 1 w F x.2.1 x.1.bk := by
 obtain ⟨c1, r1, rfl, h1, c2, r2, rfl, h2, c3, r3, rfl, h3, c4, r4, rfl, h4, c5, r5, rfl, h5, c6, r6, rfl, h6, c7, c8, rfl, h7, ⟨A, c, rfl, hl, hC⟩⟩ := h
 obtain rfl : c1 = [.string a.1] := h1
 obtain rfl : c2 = [.int .i64 a.2.1] := h2
 obtain rfl : c3 = [.int .u64 (a.2.2.1 : Int)] := h3
 obtain rfl : c4 = [.int .i64 a.2.2.2.1] := h4
 obtain rfl : c5 = [.int .i64 a.2.2.2.2.1] := h5
 obtain rfl : c6 = [.int .i64 a.2.2.2.2.2.1] := h6
 obtain rfl : c7 = [.bool a.2.2.2.2.2.2.1] := h7
 refine ⟨(toRw a, A, c), ?_, rfl, hl, ?_⟩
 ·
  show _ = [Value.string (str (bs a.1)), _, _, _, _, _, _, _]
  rw [str_bs]
  rfl
 ·
  obtain ⟨F, HV⟩ := Views.of_C (cE := cN) (by decide) (fun x cs hk => hk) hC
  exact ⟨F, HV⟩
theorem rws_at {xs : List RX} {l : List Rw} (h : rws xs = l) : xs.length = l.length := by rw [← h, rws_len]
theorem rows_view {w : World} {A : Option Addr} {l : List RwA} (hC : Kd.C RwK w A l.length l) : ∃ (xs : List RX) (F FE : List Nat), rws xs = l.map toRw ∧ VX cW 8 w F A xs ∧ EV w FE xs := by
 obtain ⟨_, _, h3⟩ := hC
 by_cases hp : 0 < l.length
 ·
  obtain ⟨ad, rfl, hc⟩ := h3 hp
  have hone : ∀ j, j ≤ l.length → ∃ xs : List RX, xs.length = j ∧ ∀ i x, xs[i]? = some x → ∃ a, l[i]? = some a ∧ x.1 = toRw a ∧ x.1.bk.length ≤ x.2.2 ∧ (∃ F, VX cN 1 w F x.2.1 x.1.bk) ∧ ∀ k u, (cW x)[k]? = some u → w.cell? (ad.add (i * 8 + k)) = some u := by
   intro j
   induction j with
   | zero => intro _; exact ⟨[], rfl, fun i b hb => by simp at hb⟩
   | succ j ih =>
    intro hj
    obtain ⟨xs, hl1, hl2⟩ := ih (by omega)
    obtain ⟨cs, _, hk, hcell⟩ := hc j l[j] (List.getElem?_eq_getElem (by omega))
    obtain ⟨x, rfl, hx1, hx2, hx3⟩ := open_row hk
    refine ⟨xs ++ [x], by simp [hl1], fun i y hy => ?_⟩
    by_cases hi : i < j
    ·
     rw [List.getElem?_append_left (by omega)] at hy
     exact hl2 i y hy
    ·
     have hij : i = j := by
      have := (List.getElem?_eq_some_iff.1 hy).1
      simp [hl1] at this
      omega
     subst hij
     rw [List.getElem?_append_right (by omega), hl1] at hy
     simp at hy
     subst hy
     exact ⟨l[i], List.getElem?_eq_getElem (by omega), hx1, hx2, hx3, fun k u hu => hcell k u hu⟩
  obtain ⟨xs, hl1, hl2⟩ := hone l.length (Nat.le_refl _)
  have hF : ∀ j, j ≤ xs.length → ∃ FE : List Nat, (∀ y ∈ FE, y < w.heap.size) ∧ ∀ i x, i < j → xs[i]? = some x → ∃ F, (∀ y ∈ F, y ∈ FE) ∧ VX cN 1 w F x.2.1 x.1.bk := by
   intro j
   induction j with
   | zero => intro _; exact ⟨[], by simp, fun i x h => by omega⟩
   | succ j ih =>
    intro hj
    obtain ⟨FE, h1, h2⟩ := ih (by omega)
    obtain ⟨_, _, _, _, ⟨F, HV⟩, _⟩ := hl2 j xs[j] (List.getElem?_eq_getElem (by omega))
    refine ⟨FE ++ F, fun y hy => ?_, fun i x hi hx => ?_⟩
    ·
     rcases List.mem_append.1 hy with h | h
     ·
      exact h1 y h
     ·
      exact HV.1 y h
    ·
     by_cases hij : i < j
     ·
      obtain ⟨F2, h3, h4⟩ := h2 i x hij hx
      exact ⟨F2, fun y hy => List.mem_append_left _ (h3 y hy), h4⟩
     ·
      obtain rfl : i = j := by omega
      rw [List.getElem?_eq_getElem (by omega)] at hx
      obtain rfl := Option.some.inj hx
      exact ⟨F, fun y hy => List.mem_append_right _ hy, HV⟩
  obtain ⟨FE, h1, h2⟩ := hF xs.length (Nat.le_refl _)
  refine ⟨xs, [ad.block], FE, ?_, ⟨fun y hy => ?_, fun _ => ⟨ad, rfl, by simp, fun i x hx k u hu => (hl2 i x hx).choose_spec.2.2.2.2 k u hu⟩⟩, h1, fun x hx => ?_⟩
  ·
   refine List.ext_getElem? fun i => ?_
   unfold rws
   rw [List.getElem?_map, List.getElem?_map]
   by_cases hi : i < l.length
   ·
    obtain ⟨a, ha, hx, _⟩ := hl2 i xs[i] (List.getElem?_eq_getElem (by omega))
    rw [List.getElem?_eq_getElem (by omega : i < xs.length), ha]
    simp [hx]
   ·
    rw [List.getElem?_eq_none (by omega), List.getElem?_eq_none (by omega)]
    rfl
  ·
   obtain rfl : y = ad.block := by simpa using hy
   obtain ⟨a, _, _, _, _, hcell⟩ := hl2 0 xs[0] (List.getElem?_eq_getElem (by omega))
   have := World.block_lt_of_cell? w _ (hcell 0 _ rfl)
   have hb : (ad.add (0 * 8 + 0)).block = ad.block := by unfold Addr.add; split <;> rfl
   rwa [hb] at this
  ·
   obtain ⟨i, hi, rfl⟩ := List.getElem_of_mem hx
   obtain ⟨_, _, _, hle, _, _⟩ := hl2 i xs[i] (List.getElem?_eq_getElem hi)
   exact ⟨hle, h2 i xs[i] hi (List.getElem?_eq_getElem hi)⟩
 ·
  obtain rfl : l = [] := List.length_eq_zero_iff.1 (by omega)
  exact ⟨[], [], [], rfl, VX.nil w A, EV.nil w⟩
theorem open_batch {w : World} {a : BtA} {cs : List Value} (h : BtK.K w a cs) : ∃ A c, cs = [.int .i64 a.1, .int .i64 a.2.1, .slice A a.2.2.length c] ∧ a.2.2.length ≤ c ∧ Kd.C RwK w A a.2.2.length a.2.2 := by
 obtain ⟨c1, r1, rfl, h1, c2, c3, rfl, h2, ⟨A, c, rfl, hl, hC⟩⟩ := h
 obtain rfl : c1 = [.int .i64 a.1] := h1
 obtain rfl : c2 = [.int .i64 a.2.1] := h2
 exact ⟨A, c, rfl, hl, hC⟩
theorem rows_good {xs : List RX} {l : List RwA} (h : rws xs = l.map toRw) (hg : ∀ x ∈ l, goodRw x) : ∀ x ∈ xs, ∃ a, goodRw a ∧ x.1 = toRw a := by
 intro x hx
 have : x.1 ∈ l.map toRw := by rw [← h]; exact List.mem_map.2 ⟨x, hx, rfl⟩
 obtain ⟨a, ha, he⟩ := List.mem_map.1 this
 exact ⟨a, hg a ha, he.symm⟩
theorem puts_row (a : BtA) (A : Option Addr) (c : Nat) (w : World) (hg : goodBt a) (hc : a.2.2.length ≤ c) (hC : Kd.C RwK w A a.2.2.length a.2.2) (h : SFacts w) :
  Calls Tryz.prog 3 #[.agg #[.int .i64 a.1, .int .i64 a.2.1, .slice A a.2.2.length c]] w fun e w' => e = .returned (.bool true) ∧ Below w.heap.size w w' := by
 obtain ⟨HS, HR, HT, m, hm, _⟩ := h
 obtain ⟨xs, F, FE, hx, HV, HE⟩ := rows_view hC
 have hr := rows_good hx hg.2.2.2
 exact (puts_any a.1 a.2.1 xs A a.2.2.length c F FE w HV HE (by rw [rws_at hx, List.length_map]) hg.2.2.1 (fun x hx => by obtain ⟨a, hg, e⟩ := hr x hx; rw [e]; exact hg.1) (fun x hx => by obtain ⟨a, hg, e⟩ := hr x hx; rw [e]; exact hg.2.2.2.2.2.2.2.1) (fun x hx => by obtain ⟨a, hg, e⟩ := hr x hx; rw [e]; exact toRw_in hg) HS HR HT ⟨m, hm⟩).mono fun e w' ⟨h1, h2⟩ => ⟨h1, h2.below0⟩
theorem gets_row (A : Option Addr) (c : Nat) (l : L) (w : World) (hc : l.length ≤ c) (hn : l.length ≤ 9223372036854775807) (hC : Kd.C Views.byteK w A l.length l) (h : SFacts w) :
  Calls Tryz.prog 4 #[.slice A l.length c] w fun e w' => e = .returned (.bool true) ∧ Below w.heap.size w w' := by
 obtain ⟨HS, HR, HT, m, hm, _⟩ := h
 obtain ⟨FB, HV⟩ := Views.bytes hC
 exact (gets_any A l.length c l FB w HV rfl hc hn HS HR HT ⟨m, hm⟩).mono fun e w' ⟨h1, h2⟩ => ⟨h1, h2.below0⟩
theorem back_row (a : BtA) (A : Option Addr) (c : Nat) (B : Option Addr) (d : Nat) (l : L) (w : World) (hg : goodBt a) (hc : a.2.2.length ≤ c) (hC : Kd.C RwK w A a.2.2.length a.2.2) (hd : l.length ≤ d) (hn : l.length ≤ 9223372036854775807) (hB : Kd.C Views.byteK w B l.length l) (h : SFacts w) :
  Calls Tryz.prog 5 #[.agg #[.int .i64 a.1, .int .i64 a.2.1, .slice A a.2.2.length c], .slice B l.length d] w fun e w' => e = .returned (.bool true) ∧ Below w.heap.size w w' := by
 obtain ⟨HS, HR, HT, m, hm, _⟩ := h
 obtain ⟨FB, HVB⟩ := Views.bytes hB
 obtain ⟨xs, F, FE, hx, HV, HE⟩ := rows_view hC
 have hr := rows_good hx hg.2.2.2
 exact (back_any a.1 a.2.1 xs A a.2.2.length c F FE B l.length d l FB w HV HE (by rw [rws_at hx, List.length_map]) hg.2.2.1 (fun x hx => by obtain ⟨a, hg, e⟩ := hr x hx; rw [e]; exact hg.1) (fun x hx => by obtain ⟨a, hg, e⟩ := hr x hx; rw [e]; exact hg.2.2.2.2.2.2.2.1) (fun x hx => by obtain ⟨a, hg, e⟩ := hr x hx; rw [e]; exact toRw_in hg) HVB rfl hd hn HS HR HT ⟨m, hm⟩).mono fun e w' ⟨h1, h2⟩ => ⟨h1, h2.below0⟩
end Go.Proofs.YtdhonbahpcmmnaaGreatDoor.Bat
end
section
namespace Go.Proofs.YtdhonbahpcmmnaaGreatDoorW.PrintWords
open Go.ChangeShapes Go.WideShapes
theorem sized_ints {H : Type} {enc : TypeId × Value → H} {P : Program} {W : World} {base : Nat} {spare : Nat → Bool} {held : Bool} {t e : TypeId} {k : IntKind} {a : Option Addr} {len cap : Nat} {d : DataW H} {ps : List MemPlace} {ts : List TypeId} {ds : List (DataW H)} {j : Nat}
  (hsz : (DataW.weightsEach P ts ds).all (· ≤ reachBytes) = true) (ht : ts[j]? = some t) (hd : ds[j]? = some d) (hu : P.underlying t = some (.slice e)) (he : P.underlying e = some (.int k)) (hc : P.cellsOf e = 1) {B : Nat} (hB : P.bytesOf e = B)
  (h : DataW.Trod enc P W base spare held t (.slice a len cap) d ps) : len * B ≤ 140737488351232 := by
 obtain ⟨fuel, hf⟩ := h
 rcases open_ints hu he hc hf with ⟨hcs, _⟩ | ⟨x, l, c, zs, hcs, _, hl, _, hz, hx, _, _⟩
 ·
  simp [Value.cells] at hcs
  obtain ⟨rfl, rfl, rfl⟩ := hcs
  simp
 ·
  simp [Value.cells] at hcs
  obtain ⟨rfl, rfl, rfl⟩ := hcs
  obtain ⟨hx, _⟩ := Prod.mk.inj hx
  subst hx
  have z := sized_slice hsz ht hd hu
  rw [hB] at z
  have hl2 : len ≤ zs.length := by
   rw [hz]
   split
   ·
    exact hl
   ·
    exact Nat.le_refl _
  have h1 : (lits (H := H) k (zs.take len)).length + (lits (H := H) k (zs.drop len)).length = zs.length := by
   simp [lits]
   omega
  rw [h1] at z
  exact Nat.le_trans (Nat.mul_le_mul_right _ hl2) z
end Go.Proofs.YtdhonbahpcmmnaaGreatDoorW.PrintWords
end
section
set_option linter.unusedVariables false
namespace Go.Proofs.YtdhonbahpcmmnaaGreatDoor.Row
open Go.ChangeShapes Go.WideShapes Go.RowKit Go.Proofs.YtdhonbahpcmmnaaGreatDoorW.PrintWords Go.Proofs.YtdhonbahpcmmnaaGreatDoorW.PrintLast
end Go.Proofs.YtdhonbahpcmmnaaGreatDoor.Row
end
