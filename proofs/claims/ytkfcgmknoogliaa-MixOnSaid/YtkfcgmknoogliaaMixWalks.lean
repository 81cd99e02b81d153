/- The walks of layer 3's statements: they answer true at any bytes. -/
import Derived.Test.YtkfcgmknoogliaaMixPure
import Derived.WalkSpells
import Derived.WalkLawsBesides
import Derived.Lib.SlBytesConst
import Derived.Lib.Hide
set_option linter.unusedVariables false
namespace Go.Proofs.Ytkfcgmknoogliaa.Mix
open Go.RowKit Go.Proofs.YtkfcgmknoogliaaW.PrintWords Go.Proofs.YtkfcgmknoogliaaW.PrintLast

theorem hash_a : PKeep.mix_Hash.f 3 [97] = some 3826002220 := by decide +kernel
theorem hash_none : PKeep.mix_Hash.f 3 [] = some 2166136261 := by decide +kernel

theorem reads_a (w : World) : Kd.C (Kd.int .u8) (w.alloc (Obj.cells #[Value.int IntKind.u8 97] 5 (1, 2))) (some ⟨w.heap.size, 0, none⟩) ([97] : List Int).length [97] := by
  refine Kd.C_of_reads (d := (0 : Int)) (h1 := fun _ => rfl) ⟨rfl, by simp, fun _ => ⟨_, rfl, fun j hj => ?_⟩⟩
  obtain rfl : j = 0 := by simpa using hj
  rw [show (⟨w.heap.size, 0, none⟩ : Addr).add 0 = ⟨w.heap.size, 0, none⟩ from rfl]
  unfold World.cell?
  rw [heap_alloc_new]
  rfl

theorem below_drawn {B : Nat} {w w' : World} (h : Below B w w') (n : Nat) : Below B w (w'.drewN n) := pw_below_drewN h n
theorem C_now {w w' : World} {A : Option Addr} {l : List Int} (h : Kd.C (Kd.int .u8) w A l.length l) (hb : Below w.heap.size w w') : Kd.C (Kd.int .u8) w' A l.length l := Kd.C_below h hb

set_option maxHeartbeats 400000 in
theorem up_any (w : World) : Calls Try.prog 15 #[] w fun e w' => e = .returned (.bool true) ∧ Below w.heap.size w w' := by
  have kc := fun (w : World) (C : Array Value) (n c : Nat) => Lib.run_convert_bytes_const (P := Try.prog) w 22 5 C n c Try.underlying22 Try.underlying5
  go_enter Try.func15, Try.ntmps15
  go_wp2_with fail
  refine (PKeep.mix_Hash.calls 3 _ 1 [97] _ _ (reads_a w) (by decide) hash_a).mono ?_
  rintro e w' ⟨rfl, ⟨n, rfl⟩⟩
  go_wp2_with fail
  refine (PKeep.mix_Hash.calls 3 none 0 [] _ _ (Kd.C_nil _ _) (by decide) hash_none).mono ?_
  rintro e w' ⟨rfl, ⟨m, rfl⟩⟩
  go_wp2_with fail
  go_ret
  exact ⟨rfl, pw_below_drewN ((Below.refl _ _).alloc (Nat.le_refl _) _) _⟩

/-- what the four calls answer, at a length that a slice has -/
theorem hash_any (A0 : Option Addr) (c0 : Nat) (l : List Int) (w : World) (hr : Kd.C (Kd.int .u8) w A0 l.length l) (hc : l.length ≤ c0) (hl : l.length ≤ 5001) :
    Calls Try.prog 16 #[.slice A0 l.length c0] w fun e w' => e = .returned (.int .u32 (mixH l)) ∧ Drawn0 w w' :=
  PKeep.mix_Hash.calls (l.length + 1) A0 c0 l _ w hr hc (hash_eq l (by omega) _ (by omega))
theorem part_any (A0 : Option Addr) (c0 : Nat) (l : List Int) (w : World) (hr : Kd.C (Kd.int .u8) w A0 l.length l) (hc : l.length ≤ c0) (hl : l.length ≤ 5001) :
    Calls Try.prog 21 #[.slice A0 l.length c0] w fun e w' => e = .returned (.int .i64 (mixH l % 65536)) ∧ Drawn0 w w' :=
  PKeep.mix_Part.calls (l.length + 1) A0 c0 l _ w hr hc (part_eq l (by omega) _ (by omega))
theorem keep_any (A0 : Option Addr) (c0 : Nat) (l : List Int) (t : Int) (w : World) (hr : Kd.C (Kd.int .u8) w A0 l.length l) (hc : l.length ≤ c0) (hl : l.length ≤ 5001) :
    Calls Try.prog 22 #[.slice A0 l.length c0, .int .i64 t] w fun e w' => e = .returned (.bool (decide (mixH l % 65536 ≥ t))) ∧ Drawn0 w w' :=
  PKeep.mix_Keep.calls (l.length + 1) A0 c0 l t _ w hr hc (keep_eq l (by omega) t _ (by omega))
theorem ref_any (A0 : Option Addr) (c0 : Nat) (l : List Int) (w : World) (hr : Kd.C (Kd.int .u8) w A0 l.length l) (hc : l.length ≤ c0) (hw : ∀ x ∈ l, (Lit.int .u8 x).wf = true) (hl : l.length ≤ 5001) :
    Calls Try.prog 20 #[.slice A0 l.length c0] w fun e w' => e = .returned (.int .u32 (mixH l)) ∧ Drawn0 w w' :=
  PHash.nogginref01_Hash.calls (l.length + 1) A0 c0 l _ w hr hc (ref_hash_eq l hw (by omega) _ (by omega))

set_option maxHeartbeats 1000000 in
theorem tells_any (A0 : Option Addr) (c0 : Nat) (l : List Int) (t : Int) (w : World) (hr : Kd.C (Kd.int .u8) w A0 l.length l) (hc : l.length ≤ c0) (hw : ∀ x ∈ l, (Lit.int .u8 x).wf = true) (hm : l.length ≤ 140737488351232) :
    Calls Try.prog 6 #[.slice A0 l.length c0, .int .i64 t] w fun e w' => e = .returned (.bool true) ∧ Below w.heap.size w w' := by
  have HR := Lib.hid hr
  have HW := Lib.hid hw
  clear hr hw
  by_cases hlen : 5000 < l.length
  · go_enter Try.func6, Try.ntmps6
    go_wp2_with fail
    refine (up_any _).mono ?_
    rintro e w' ⟨rfl, hb⟩
    go_wp2_with fail
    go_ret
    exact ⟨rfl, hb⟩
  · have hb0 := mixH_bd l
    obtain ⟨b0, b1⟩ := hb0
    go_enter Try.func6, Try.ntmps6
    go_wp2_with fail
    refine (up_any _).mono ?_
    rintro e w1 ⟨rfl, hb⟩
    have HC := Lib.hid (C_now HR.out hb)
    go_wp2_with fail
    refine (ref_any A0 c0 l w1 HC.out hc HW.out (by omega)).mono ?_
    rintro e w' ⟨rfl, ⟨n, rfl⟩⟩
    go_wp2_with fail
    refine (hash_any A0 c0 l _ (Kd.C_drewN HC.out _) hc (by omega)).mono ?_
    rintro e w' ⟨rfl, ⟨n, rfl⟩⟩
    go_wp2_with fail
    refine (part_any A0 c0 l _ (Kd.C_drewN HC.out _) hc (by omega)).mono ?_
    rintro e w' ⟨rfl, ⟨n, rfl⟩⟩
    go_wp2_with fail
    refine (keep_any A0 c0 l t _ (Kd.C_drewN HC.out _) hc (by omega)).mono ?_
    rintro e w' ⟨rfl, ⟨n, rfl⟩⟩
    go_wp2_with fail
    go_ret
    exact ⟨by simp, pw_below_drewN hb _⟩

theorem keep_yes (A0 : Option Addr) (c0 : Nat) (l : List Int) (t : Int) (w : World) (hr : Kd.C (Kd.int .u8) w A0 l.length l) (hc : l.length ≤ c0) (hl : l.length ≤ 5001) (h : mixH l % 65536 ≥ t) :
    Calls Try.prog 22 #[.slice A0 l.length c0, .int .i64 t] w fun e w' => e = .returned (.bool true) ∧ Drawn0 w w' := by
  have := keep_any A0 c0 l t w hr hc hl
  rwa [decide_eq_true h] at this
theorem keep_no (A0 : Option Addr) (c0 : Nat) (l : List Int) (t : Int) (w : World) (hr : Kd.C (Kd.int .u8) w A0 l.length l) (hc : l.length ≤ c0) (hl : l.length ≤ 5001) (h : mixH l % 65536 < t) :
    Calls Try.prog 22 #[.slice A0 l.length c0, .int .i64 t] w fun e w' => e = .returned (.bool false) ∧ Drawn0 w w' := by
  have := keep_any A0 c0 l t w hr hc hl
  rwa [decide_eq_false (by omega)] at this

set_option maxHeartbeats 2000000 in
theorem less_any (A0 : Option Addr) (c0 : Nat) (l : List Int) (lo hi : Int) (w : World) (hr : Kd.C (Kd.int .u8) w A0 l.length l) (hc : l.length ≤ c0) (hm : l.length ≤ 140737488351232) :
    Calls Try.prog 7 #[.slice A0 l.length c0, .int .i64 lo, .int .i64 hi] w fun e w' => e = .returned (.bool true) ∧ Below w.heap.size w w' := by
  have HR := Lib.hid hr
  clear hr
  by_cases hlen : 5000 < l.length
  · go_enter Try.func7, Try.ntmps7
    go_wp2_with fail
    refine (up_any _).mono ?_
    rintro e w' ⟨rfl, hb⟩
    go_wp2_with fail
    go_ret
    exact ⟨rfl, hb⟩
  · have hb0 : 0 ≤ mixH l % 65536 ∧ mixH l % 65536 ≤ 65535 := by omega
    obtain ⟨b0, b1⟩ := hb0
    by_cases hle : lo ≤ hi
    · by_cases hk : mixH l % 65536 ≥ hi
      · go_enter Try.func7, Try.ntmps7
        go_wp2_with fail
        refine (up_any _).mono ?_
        rintro e w1 ⟨rfl, hb⟩
        have HC := Lib.hid (C_now HR.out hb)
        go_wp2_with fail
        refine (keep_yes A0 c0 l hi w1 HC.out hc (by omega) (by omega)).mono ?_
        rintro e w' ⟨rfl, ⟨n, rfl⟩⟩
        go_wp2_with fail
        refine (keep_yes A0 c0 l lo _ (Kd.C_drewN HC.out _) hc (by omega) (by omega)).mono ?_
        rintro e w' ⟨rfl, ⟨n, rfl⟩⟩
        go_wp2_with fail
        refine (keep_yes A0 c0 l 0 _ (Kd.C_drewN HC.out _) hc (by omega) (by omega)).mono ?_
        rintro e w' ⟨rfl, ⟨n, rfl⟩⟩
        go_wp2_with fail
        refine (keep_no A0 c0 l 65536 _ (Kd.C_drewN HC.out _) hc (by omega) (by omega)).mono ?_
        rintro e w' ⟨rfl, ⟨n, rfl⟩⟩
        go_wp2_with fail
        refine (part_any A0 c0 l _ (Kd.C_drewN HC.out _) hc (by omega)).mono ?_
        rintro e w' ⟨rfl, ⟨n, rfl⟩⟩
        go_wp2_with fail
        refine (keep_yes A0 c0 l _ _ (Kd.C_drewN HC.out _) hc (by omega) (by omega)).mono ?_
        rintro e w' ⟨rfl, ⟨n, rfl⟩⟩
        go_wp2_with fail
        refine (part_any A0 c0 l _ (Kd.C_drewN HC.out _) hc (by omega)).mono ?_
        rintro e w' ⟨rfl, ⟨n, rfl⟩⟩
        go_wp2_with fail
        refine (keep_no A0 c0 l _ _ (Kd.C_drewN HC.out _) hc (by omega) (by omega)).mono ?_
        rintro e w' ⟨rfl, ⟨n, rfl⟩⟩
        go_wp2_with fail
        go_ret
        exact ⟨rfl, pw_below_drewN hb _⟩
      · go_enter Try.func7, Try.ntmps7
        go_wp2_with fail
        refine (up_any _).mono ?_
        rintro e w1 ⟨rfl, hb⟩
        have HC := Lib.hid (C_now HR.out hb)
        go_wp2_with fail
        refine (keep_no A0 c0 l hi w1 HC.out hc (by omega) (by omega)).mono ?_
        rintro e w' ⟨rfl, ⟨n, rfl⟩⟩
        go_wp2_with fail
        refine (keep_yes A0 c0 l 0 _ (Kd.C_drewN HC.out _) hc (by omega) (by omega)).mono ?_
        rintro e w' ⟨rfl, ⟨n, rfl⟩⟩
        go_wp2_with fail
        refine (keep_no A0 c0 l 65536 _ (Kd.C_drewN HC.out _) hc (by omega) (by omega)).mono ?_
        rintro e w' ⟨rfl, ⟨n, rfl⟩⟩
        go_wp2_with fail
        refine (part_any A0 c0 l _ (Kd.C_drewN HC.out _) hc (by omega)).mono ?_
        rintro e w' ⟨rfl, ⟨n, rfl⟩⟩
        go_wp2_with fail
        refine (keep_yes A0 c0 l _ _ (Kd.C_drewN HC.out _) hc (by omega) (by omega)).mono ?_
        rintro e w' ⟨rfl, ⟨n, rfl⟩⟩
        go_wp2_with fail
        refine (part_any A0 c0 l _ (Kd.C_drewN HC.out _) hc (by omega)).mono ?_
        rintro e w' ⟨rfl, ⟨n, rfl⟩⟩
        go_wp2_with fail
        refine (keep_no A0 c0 l _ _ (Kd.C_drewN HC.out _) hc (by omega) (by omega)).mono ?_
        rintro e w' ⟨rfl, ⟨n, rfl⟩⟩
        go_wp2_with fail
        go_ret
        exact ⟨rfl, pw_below_drewN hb _⟩
    · go_enter Try.func7, Try.ntmps7
      go_wp2_with fail
      refine (up_any _).mono ?_
      rintro e w1 ⟨rfl, hb⟩
      have HC := Lib.hid (C_now HR.out hb)
      go_wp2_with fail
      refine (keep_yes A0 c0 l 0 _ HC.out hc (by omega) (by omega)).mono ?_
      rintro e w' ⟨rfl, ⟨n, rfl⟩⟩
      go_wp2_with fail
      refine (keep_no A0 c0 l 65536 _ (Kd.C_drewN HC.out _) hc (by omega) (by omega)).mono ?_
      rintro e w' ⟨rfl, ⟨n, rfl⟩⟩
      go_wp2_with fail
      refine (part_any A0 c0 l _ (Kd.C_drewN HC.out _) hc (by omega)).mono ?_
      rintro e w' ⟨rfl, ⟨n, rfl⟩⟩
      go_wp2_with fail
      refine (keep_yes A0 c0 l _ _ (Kd.C_drewN HC.out _) hc (by omega) (by omega)).mono ?_
      rintro e w' ⟨rfl, ⟨n, rfl⟩⟩
      go_wp2_with fail
      refine (part_any A0 c0 l _ (Kd.C_drewN HC.out _) hc (by omega)).mono ?_
      rintro e w' ⟨rfl, ⟨n, rfl⟩⟩
      go_wp2_with fail
      refine (keep_no A0 c0 l _ _ (Kd.C_drewN HC.out _) hc (by omega) (by omega)).mono ?_
      rintro e w' ⟨rfl, ⟨n, rfl⟩⟩
      go_wp2_with fail
      go_ret
      exact ⟨rfl, pw_below_drewN hb _⟩

theorem infoByte : (Try.prog.info? 5).map (fun i => (i.zero, i.size, i.bytes)) = some (some (.int .u8 0), 1, 1) := by kernel_rfl

theorem on_eq (l : List Int) (x : Int) (h0 : 0 ≤ x) (h1 : x ≤ 255) : mixH (l ++ [x]) = (Go.bits .xor .u32 (mixH l) x * 16777619) % 4294967296 := by
  rw [mixH_snoc]
  unfold mixStep
  rw [Int.emod_eq_of_lt h0 (by omega)]

set_option maxHeartbeats 2000000 in
theorem on_any (A0 : Option Addr) (c0 : Nat) (l : List Int) (x : Int) (w : World) (hr : Kd.C (Kd.int .u8) w A0 l.length l) (hc : l.length ≤ c0) (h0 : 0 ≤ x) (h1 : x ≤ 255) (hm : l.length ≤ 140737488351232) :
    Calls Try.prog 3 #[.slice A0 l.length c0, .int .u8 x] w fun e w' => e = .returned (.bool true) ∧ Below w.heap.size w w' := by
  have HR := Lib.hid hr
  clear hr
  by_cases hlen : 5000 < l.length
  · go_enter Try.func3, Try.ntmps3
    go_wp2_with fail
    refine (up_any _).mono ?_
    rintro e w' ⟨rfl, hb⟩
    go_wp2_with fail
    go_ret
    exact ⟨rfl, hb⟩
  · obtain ⟨y, hy⟩ : ∃ y, y = l ++ [x] := ⟨_, rfl⟩
    have hyl : y.length = l.length + 1 := by rw [hy]; simp
    have HE := Lib.hid (on_eq l x h0 h1)
    rw [← hy] at HE
    have NY := Lib.hid hy
    have HL := Lib.hid hyl
    clear hy hyl
    go_enter Try.func3, Try.ntmps3
    go_wp2_with fail
    refine (up_any _).mono ?_
    rintro e w1 ⟨rfl, hb1⟩
    have HB1 := Lib.hid hb1.size
    go_wp2_with (first | ((with_reducible refine gate_dst (N := 13) rfl ?_); (try (refine gate_guard (by rfl) ?_; dsimp only)); refine Kd.R_lit (Kd.int .u8) _ 5 ?hg (N := 13) ?hd (xs := ([] : List Int)) (inner := []) (ok := fun _ => True) (okp := fun _ => True) ?hr ?hp (fun _ hk => hk) trivial (Below.refl _ _) (Nat.le_refl _) (by simp) ?_; (case hd => rfl); (case hg => rfl); (case hr => first | (go_simp; done) | (go_simp; rfl)); (case hp => exact (Reps.none _ _)); intro v2 w2 ho2 hb2 hg_ hnew_; clear hg_ hnew_; have HO2 := Lib.hid ho2; have HB2 := Lib.hid (hb1.trans (hb2.mono hb1.size)); clear ho2 hb2) | ((with_reducible refine gate_builtin (b := .append) (xs := #[.tmp 13, .tmp 14]) rfl ?_); (try (refine gate_guard (by rfl) ?_; dsimp only)); at_builtin; refine Kd.R_append_rows (Kd.int .u8) (w0 := w) w.heap.size rfl (.tmp 13) (.tmp 14) 22 5 (.int .u8 0) 1 rfl Try.underlying22 infoByte rfl (by decide) (by omega) v2 [] l _ _ _ (fun _ => True) (fun _ => False) rfl rfl ?aO ?aR (fun _ _ h => h) (fun _ h => h.elim) ?aF ?aB ?aS ?aL ?_; (case aR => exact Kd.C_below HR.out HB2.out); (case aB => exact HB2.out); (case aF => exact (fun _ _ => trivial)); (case aO => exact Kd.R_lower HO2.out HB1.out); (case aS => exact HB2.out.size); (case aL => simp; omega); intro v3 w3 ho hb hg hat; have HO3 := Lib.hid ho; have HB3 := Lib.hid hb; clear ho hb hg hat) | ((with_reducible refine gate_builtin (b := .append) (xs := #[.tmp 15, .tmp 17]) rfl ?_); (try (refine gate_guard (by rfl) ?_; dsimp only)); at_builtin; go_must (refine Kd.R_append (Kd.int .u8) (w0 := w) w.heap.size rfl (.tmp 15) (.tmp 17) 22 5 (.int .u8 0) 1 rfl Try.underlying22 infoByte rfl (by decide) (by omega) v3 ([] ++ l) x [.int .u8 x] (fun _ => True) (fun _ => False) rfl rfl ?aP (fun _ hk => hk.elim) ?aF ?aO ?aB ?aS ?aL ?_); (case aP => exact rfl); (case aB => exact HB3.out); (case aF => exact (fun _ _ => trivial)); (case aO => exact HO3.out); (case aS => exact HB3.out.size); (case aL => simp; omega); intro v4 w4 ho hb hg hat; rw [List.nil_append, ← NY.out] at ho; have HO4 := Lib.hid ho; have HB4 := Lib.hid hb; clear ho hb hg hat; obtain ⟨A4, c4, e4⟩ := Kd.R_slice HO4.out; subst e4) | fail)
    refine (hash_any A4 c4 y _ (Kd.R_reads' HO4.out).2.2 (Kd.R_reads' HO4.out).2.1 (by have := HL.out; omega)).mono ?_
    rintro e w' ⟨rfl, ⟨n, rfl⟩⟩
    go_wp2_with fail
    refine (hash_any A0 c0 l _ (Kd.C_drewN (Kd.C_below HR.out HB4.out) _) hc (by omega)).mono ?_
    rintro e w' ⟨rfl, ⟨n, rfl⟩⟩
    rw [HE.out]
    go_wp2_with fail
    go_ret
    exact ⟨by simp, pw_below_drewN HB4.out _⟩
end Go.Proofs.Ytkfcgmknoogliaa.Mix
