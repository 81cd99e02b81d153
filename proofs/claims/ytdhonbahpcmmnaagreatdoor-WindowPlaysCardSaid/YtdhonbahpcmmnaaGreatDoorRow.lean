/- From a statement's arguments to views: bytes, and elements of few cells. Words for the rows. -/
import Derived.Test.YtdhonbahpcmmnaaGreatDoorLinePure
import Derived.Test.YtdhonbahpcmmnaaGreatDoorOpens
import Derived.OpenShut
import Derived.Test.YtdhonbahpcmmnaaGreatDoorSerS
import Derived.Test.YtdhonbahpcmmnaaGreatDoorSerL
import Derived.SizedLaws
import Derived.ChangeSlices
import Derived.Test.YtdhonbahpcmmnaaGreatDoorWMore
import Derived.WalkKit
import Derived.ProofKit
section
set_option linter.unusedVariables false
set_option linter.unusedSimpArgs false
namespace Go.Proofs.YtdhonbahpcmmnaaGreatDoor.Views
open Go Go.RowKit Go.ChangeShapes Go.WideShapes Go.Proofs.YtdhonbahpcmmnaaGreatDoor Go.Proofs.YtdhonbahpcmmnaaGreatDoor.Eng Go.Proofs.YtdhonbahpcmmnaaGreatDoorW.PrintWords Go.Proofs.YtdhonbahpcmmnaaGreatDoorW.PrintLast
theorem of_C {α : Type} {d : Kd α} {cE : α → List Value} {w : World} {A : Option Addr} {l : List α} (hs : 0 < d.sz) (hK : ∀ x cs, d.K w x cs → cs = cE x) (h : Kd.C d w A l.length l) : ∃ F, VX cE d.sz w F A l := by
 obtain ⟨_, _, h3⟩ := h
 by_cases hp : 0 < l.length
 ·
  obtain ⟨ad, rfl, hc⟩ := h3 hp
  have hcell : ∀ i x, l[i]? = some x → ∀ j u, (cE x)[j]? = some u → w.cell? (ad.add (i * d.sz + j)) = some u := by
   intro i x hx j u hu
   obtain ⟨cs, _, hk, hcell⟩ := hc i x hx
   rw [hK x cs hk] at hcell
   exact hcell j u hu
  refine ⟨[ad.block], fun y hy => ?_, fun _ => ⟨ad, rfl, by simp, hcell⟩⟩
  obtain rfl : y = ad.block := by simpa using hy
  obtain ⟨cs, hl, hk, hcell2⟩ := hc 0 l[0] (List.getElem?_eq_getElem hp)
  have := World.block_lt_of_cell? w _ (hcell2 0 _ (List.getElem?_eq_getElem (by omega)))
  have hb : (ad.add (0 * d.sz + 0)).block = ad.block := by unfold Addr.add; split <;> rfl
  rwa [hb] at this
 ·
  obtain rfl : l = [] := List.length_eq_zero_iff.1 (by omega)
  exact ⟨[], VX.nil w A⟩
def byteK : Kd UInt8 := Kd.iso (Kd.int .u8) fun b => (b.toNat : Int)
theorem bytes {w : World} {A : Option Addr} {l : List UInt8} (h : Kd.C byteK w A l.length l) : ∃ F, VX cB 1 w F A l :=
 of_C (cE := cB) (by decide) (fun x cs hk => hk) h
end Go.Proofs.YtdhonbahpcmmnaaGreatDoor.Views
end
section
set_option linter.unusedVariables false
set_option linter.unusedSimpArgs false
namespace Go.Proofs.YtdhonbahpcmmnaaGreatDoor.Line
open Go Go.RowKit Go.ChangeShapes Go.WideShapes Go.Proofs.YtdhonbahpcmmnaaGreatDoor Go.Proofs.YtdhonbahpcmmnaaGreatDoor.Eng Go.Proofs.YtdhonbahpcmmnaaGreatDoorW.PrintWords Go.Proofs.YtdhonbahpcmmnaaGreatDoorW.PrintLast
end Go.Proofs.YtdhonbahpcmmnaaGreatDoor.Line
end
section
set_option linter.unusedVariables false
namespace Go.Proofs.YtdhonbahpcmmnaaGreatDoor.Line
open Go Go.RowKit Go.ChangeShapes Go.WideShapes Go.Proofs.YtdhonbahpcmmnaaGreatDoor Go.Proofs.YtdhonbahpcmmnaaGreatDoor.Eng Go.Proofs.YtdhonbahpcmmnaaGreatDoorW.PrintWords Go.Proofs.YtdhonbahpcmmnaaGreatDoorW.PrintLast
def MaxO (w : World) : Prop := ∃ m, w.cell? ⟨0, 0, none⟩ = some (.int .i64 m) ∧ ∃ cs t fz, w.heap[0]? = some (.cells cs t fz) ∧ cs.size = 1
abbrev SFacts (w : World) : Prop := VarI w "strconv.ErrSyntax" ∧ VarI w "strconv.ErrRange" ∧ Lib.TabIs Tryz.prog w "internal/strconv.uint64pow10" .u64 Lib.pow10Tab ∧ MaxO w
end Go.Proofs.YtdhonbahpcmmnaaGreatDoor.Line
end
section
set_option linter.unusedVariables false
set_option linter.unusedSimpArgs false
namespace Go.Proofs.YtdhonbahpcmmnaaGreatDoor.Bat
open Go Go.RowKit Go.ChangeShapes Go.WideShapes Go.Proofs.YtdhonbahpcmmnaaGreatDoor Go.Proofs.YtdhonbahpcmmnaaGreatDoor.Eng Go.Proofs.YtdhonbahpcmmnaaGreatDoor.Line Go.Proofs.YtdhonbahpcmmnaaGreatDoorW.PrintWords Go.Proofs.YtdhonbahpcmmnaaGreatDoorW.PrintLast
abbrev DeA : Type := Bool × Int × ByteArray × Int × Int × Int
abbrev DeP : Kd DeA := Kd.pair Kd.bool (Kd.pair (Kd.int .i64) (Kd.pair Kd.string (Kd.pair (Kd.int .i64) (Kd.pair (Kd.int .i64) (Kd.int .i64)))))
abbrev DeK : Kd DeA := Kd.iso DeP id
def goodDe (a : DeA) : Prop := True ∧ (Lit.int .i64 a.2.1).wf = true ∧ a.2.2.1.size ≤ 9223372036854775807 ∧ (Lit.int .i64 a.2.2.2.1).wf = true ∧ (Lit.int .i64 a.2.2.2.2.1).wf = true ∧ (Lit.int .i64 a.2.2.2.2.2).wf = true
set_option maxRecDepth 100000 in
theorem opens_deed : Opens.Opens Tryz.prog DeK goodDe 49 := Opens.opens_struct (P := Tryz.prog) (β := DeA) (d := DeP) (t := 49) id id (fun _ => rfl) Tryz.underlying49 (by kernel_rfl)
 (Opens.opensF_cons rfl (by kernel_rfl) (Opens.opens_bool Tryz.underlying4) (Opens.opensF_cons rfl (by kernel_rfl) (Opens.opens_int Tryz.underlying2) (Opens.opensF_cons rfl (by kernel_rfl) (Opens.opens_string Tryz.underlying9) (Opens.opensF_cons rfl (by kernel_rfl) (Opens.opens_int Tryz.underlying3) (Opens.opensF_cons rfl (by kernel_rfl) (Opens.opens_int Tryz.underlying2) (Opens.opensF_one rfl (by kernel_rfl) (Opens.opens_int Tryz.underlying2)))))))
def toDe (a : DeA) : De := ⟨a.1, a.2.1, bs a.2.2.1, a.2.2.2.1, a.2.2.2.2.1, a.2.2.2.2.2⟩
theorem deeds_view {w : World} {A : Option Addr} {l : List DeA} (hC : Kd.C DeK w A l.length l) : ∃ F, VX cD 6 w F A (l.map toDe) := by
 obtain ⟨F, h1, h2⟩ := Views.of_C (cE := fun a => cD (toDe a)) (by decide) (fun x cs hk => by
  obtain ⟨c1, r1, rfl, h1, c2, r2, rfl, h2, c3, r3, rfl, h3, c4, r4, rfl, h4, c5, c6, rfl, h5, h6⟩ := hk
  obtain rfl : c1 = [.bool x.1] := h1
  obtain rfl : c2 = [.int .i64 x.2.1] := h2
  obtain rfl : c3 = [.string x.2.2.1] := h3
  obtain rfl : c4 = [.int .i64 x.2.2.2.1] := h4
  obtain rfl : c5 = [.int .i64 x.2.2.2.2.1] := h5
  obtain rfl : c6 = [.int .i64 x.2.2.2.2.2] := h6
  show _ = [_, _, Value.string (str (bs x.2.2.1)), _, _, _]
  rw [str_bs]
  rfl) hC
 refine ⟨F, h1, fun hp => ?_⟩
 rw [List.length_map] at hp
 obtain ⟨ad, e1, e2, e3⟩ := h2 hp
 refine ⟨ad, e1, e2, fun i x hx j u hu => ?_⟩
 rw [List.getElem?_map] at hx
 obtain ⟨a, ha, rfl⟩ := Option.map_eq_some_iff.1 hx
 exact e3 i a ha j u hu
theorem de_key {l : List DeA} (hg : ∀ x ∈ l, goodDe x) : ∀ d ∈ l.map toDe, d.key.length ≤ 9223372036854775807 := by
 intro d hd
 obtain ⟨a, ha, rfl⟩ := List.mem_map.1 hd
 have h1 := (hg a ha).2.2.1
 show (bs a.2.2.1).length ≤ _
 have h2 : (bs a.2.2.1).length = a.2.2.1.size := by rw [← str_size, str_bs]
 omega
theorem de_val {l : List DeA} (hg : ∀ x ∈ l, goodDe x) : ∀ d ∈ l.map toDe, I64 d.value := by
 intro d hd
 obtain ⟨a, ha, rfl⟩ := List.mem_map.1 hd
 exact bounds_i64 (hg a ha).2.2.2.2.1
theorem plays_row (width windows rows seq : Int) (A : Option Addr) (c : Nat) (l : List DeA) (w : World) (hl : l.length ≤ 9223372036854775807) (hg : ∀ x ∈ l, goodDe x) (hC : Kd.C DeK w A l.length l) (h : SFacts w) :
  Calls Tryz.prog 7 #[.int .i64 width, .int .i64 windows, .int .i64 rows, .int .i64 seq, .slice A l.length c] w fun e w' => e = .returned (.bool true) ∧ Below w.heap.size w w' := by
 obtain ⟨HS, HR, HT, m, hm, _⟩ := h
 obtain ⟨F, HV⟩ := deeds_view hC
 have hn : (l.map toDe).length = l.length := List.length_map _
 rw [← hn]
 have hl' : (l.map toDe).length ≤ 9223372036854775807 := by rw [hn]; exact hl
 by_cases hgd : 1 ≤ width ∧ width ≤ 1099511627776 ∧ 1 ≤ windows ∧ windows ≤ 100 ∧ 1 ≤ rows ∧ rows ≤ 200 ∧ 0 ≤ seq ∧ seq ≤ 1000000
 ·
  cases hf : fewP (l.map toDe) with
  | true => exact (wp_run (l.map toDe) A c F width windows rows seq w HV hl' (de_key hg) hgd hf (de_val hg) HS HR HT ⟨m, hm⟩).mono fun e w' ⟨h1, h2⟩ => ⟨h1, h2.below0⟩
  | false => exact (wp_big (l.map toDe) A c F width windows rows seq w HV hl' (de_key hg) hgd hf HS HR HT ⟨m, hm⟩).mono fun e w' ⟨h1, h2⟩ => ⟨h1, h2.below0⟩
 ·
  exact (wp_bad (l.map toDe) A c F width windows rows seq w HV hl' (de_key hg) hgd HS HR HT ⟨m, hm⟩).mono fun e w' ⟨h1, h2⟩ => ⟨h1, h2.below0⟩
end Go.Proofs.YtdhonbahpcmmnaaGreatDoor.Bat
end
section
namespace Go.Proofs.YtdhonbahpcmmnaaGreatDoorW.PrintWords
open Go.ChangeShapes Go.WideShapes
end Go.Proofs.YtdhonbahpcmmnaaGreatDoorW.PrintWords
end
section
set_option linter.unusedVariables false
namespace Go.Proofs.YtdhonbahpcmmnaaGreatDoor.Row
open Go.ChangeShapes Go.WideShapes Go.RowKit Go.Proofs.YtdhonbahpcmmnaaGreatDoorW.PrintWords Go.Proofs.YtdhonbahpcmmnaaGreatDoorW.PrintLast
end Go.Proofs.YtdhonbahpcmmnaaGreatDoor.Row
end
