/- Layer 9 in plain Lean: records in bytes, a journal's parts. No program. -/
import Derived.Test.YtkhibpdkgjapgaaWirePure
import Derived.Test.YtkhibpdkgjapgaaDiskPure
set_option linter.unusedVariables false
set_option linter.unusedSimpArgs false
namespace Go.Proofs.Ytkhibpdkgjapgaa.Jrn
open Go.Proofs.Ytkhibpdkgjapgaa.Wire Go.Proofs.Ytkhibpdkgjapgaa.Disk
def flat (rs : List (List UInt8)) : List UInt8 := (rs.map encT).flatten
def recOk (r : List UInt8) : Prop := 1 ≤ r.length ∧ r.length ≤ 4096
def Stops (t : List UInt8) : Prop := (rText t 4096 ⟨0, false⟩).1 = []
theorem flat_nil : flat [] = [] := rfl
theorem flat_cons (r : List UInt8) (rs : List (List UInt8)) : flat (r :: rs) = encT r ++ flat rs := by simp [flat]
theorem flat_app (a b : List (List UInt8)) : flat (a ++ b) = flat a ++ flat b := by simp [flat]
theorem encT_len (r : List UInt8) (h : recOk r) : r.length + 1 ≤ (encT r).length ∧ (encT r).length ≤ r.length + 10 := by
  have h1 := enc_pos r.length
  have h2 := enc_len64 r.length (by unfold recOk at h; omega)
  unfold encT
  rw [List.length_append]
  omega
theorem rText_first {r rest : List UInt8} (h : recOk r) : rText (encT r ++ rest) 4096 ⟨0, false⟩ = (r, ⟨(encT r).length, false⟩) := by
  have := rText_enc (a := []) (r := rest) (s := r) (most := 4096) (by unfold recOk at h; omega) (by unfold recOk at h; omega)
  simpa using this
theorem stops_nil : Stops [] := by
  unfold Stops rText rNum
  simp [num, numA]
theorem num_pre {n : Nat} {t u : List UInt8} (h : n < 18446744073709551616) (he : enc n = t ++ u) (hu : u ≠ []) : num t = none := by
  cases hn : num t with
  | none => rfl
  | some x =>
    exfalso
    obtain ⟨m, c⟩ := x
    obtain ⟨r, h1, h2, h3⟩ := num_spec hn
    have h4 := num_enc n [] h
    have h5 := num_enc m (r ++ u) h3
    have h6 : enc n ++ [] = enc m ++ (r ++ u) := by rw [List.append_nil, he, h1, List.append_assoc]
    rw [h6, h5] at h4
    simp only [Option.some.injEq, Prod.mk.injEq] at h4
    have h7 := congrArg List.length he
    have h8 := congrArg List.length h1
    rw [List.length_append] at h7 h8
    have h9 : 0 < u.length := List.length_pos_iff.2 hu
    omega
theorem stops_pre {r : List UInt8} (h : recOk r) {m : Nat} (hm : m < (encT r).length) : Stops ((encT r).take m) := by
  have h0 : r.length < 18446744073709551616 := by unfold recOk at h; omega
  unfold Stops rText
  by_cases h1 : m < (enc r.length).length
  · have e : (encT r).take m = (enc r.length).take m := by
      unfold encT
      rw [List.take_append_of_le_length (by omega)]
    have hn : num ((enc r.length).take m) = none := num_pre h0 (u := (enc r.length).drop m) (List.take_append_drop m _).symm (by
      intro h2
      have := congrArg List.length h2
      rw [List.length_drop, List.length_nil] at this
      omega)
    rw [e]
    unfold rNum
    simp [hn]
  · have hl : (encT r).length = (enc r.length).length + r.length := by unfold encT; rw [List.length_append]
    have e : (encT r).take m = enc r.length ++ r.take (m - (enc r.length).length) := by
      unfold encT
      rw [List.take_append, List.take_of_length_le (by omega)]
    have hn := num_enc r.length (r.take (m - (enc r.length).length)) h0
    rw [e]
    unfold rNum
    simp only [Bool.false_eq_true, if_false, List.drop_zero, hn]
    rw [if_pos]
    right
    right
    rw [List.length_append, List.length_take]
    omega
/-- what whole records a beginning of records holds -/
theorem cut_flat : ∀ (rs : List (List UInt8)) (m : Nat), (∀ r ∈ rs, recOk r) → ∃ k t, (flat rs).take m = flat (rs.take k) ++ t ∧ Stops t ∧ k ≤ rs.length ∧ ∀ j, j ≤ rs.length → (flat (rs.take j)).length ≤ m → j ≤ k
  | [], m, _ => ⟨0, [], by simp [flat], stops_nil, by simp, fun j hj _ => by simpa using hj⟩
  | r :: rs, m, h => by
    by_cases hm : m < (encT r).length
    · refine ⟨0, (encT r).take m, ?_, stops_pre (h r (by simp)) hm, by simp, fun j hj hl => ?_⟩
      · rw [flat_cons, List.take_append_of_le_length (by omega)]
        simp [flat]
      · cases j with
        | zero => omega
        | succ j =>
          rw [List.take_succ_cons, flat_cons, List.length_append] at hl
          omega
    · obtain ⟨k, t, h1, h2, h3, h4⟩ := cut_flat rs (m - (encT r).length) fun x hx => h x (by simp [hx])
      refine ⟨k + 1, t, ?_, h2, by simpa using h3, fun j hj hl => ?_⟩
      · rw [flat_cons, List.take_append, List.take_of_length_le (by omega), h1, List.take_succ_cons, flat_cons, List.append_assoc]
      · cases j with
        | zero => omega
        | succ j =>
          rw [List.take_succ_cons, flat_cons, List.length_append] at hl
          have := h4 j (by simpa using hj) (by omega)
          omega
/-- a part of a journal: its first record's number, its records, how many bytes are synced -/
structure Seg where
  n : Int
  rs : List (List UInt8)
  s : Nat
def Seg.pt (g : Seg) : Pt := ⟨g.n, flat g.rs, g.s⟩
def allR (gs : List Seg) : List (List UInt8) := (gs.map (·.rs)).flatten
theorem allR_nil : allR [] = [] := rfl
theorem allR_cons (g : Seg) (gs : List Seg) : allR (g :: gs) = g.rs ++ allR gs := by simp [allR]
theorem allR_app (a b : List Seg) : allR (a ++ b) = allR a ++ allR b := by simp [allR]
def Chain : Int → List Seg → Prop
  | _, [] => True
  | a, g :: r => g.n = a ∧ Chain (a + g.rs.length) r
theorem chain_app : ∀ (a b : List Seg) (n : Int), Chain n (a ++ b) ↔ Chain n a ∧ Chain (n + (allR a).length) b
  | [], b, n => by simp [Chain, allR]
  | g :: a, b, n => by
    rw [List.cons_append]
    show (g.n = n ∧ Chain (n + g.rs.length) (a ++ b)) ↔ (g.n = n ∧ Chain (n + g.rs.length) a) ∧ _
    rw [chain_app a b, allR_cons, List.length_append, and_assoc]
    have : n + (g.rs.length : Int) + ((allR a).length : Int) = n + ((g.rs.length + (allR a).length : Nat) : Int) := by omega
    rw [this]
theorem chain_lo : ∀ (a : List Seg) (n : Int), Chain n a → ∀ g ∈ a, n ≤ g.n ∧ g.n + g.rs.length ≤ n + (allR a).length
  | [], _, _, g, hg => by simp at hg
  | x :: a, n, h, g, hg => by
    obtain ⟨h1, h2⟩ := h
    rw [allR_cons, List.length_append]
    rcases List.mem_cons.1 hg with rfl | hg
    · omega
    · have := chain_lo a _ h2 g hg
      omega
/-- numbers rise where no part but the last is empty -/
theorem chain_rise : ∀ (a : List Seg) (n : Int) (l : Seg), Chain n (a ++ [l]) → (∀ g ∈ a, g.rs ≠ []) → Rise ((a ++ [l]).map Seg.pt)
  | [], n, l, _, _ => List.pairwise_singleton _ _
  | x :: a, n, l, h, hne => by
    obtain ⟨h1, h2⟩ := h
    rw [List.cons_append, List.map_cons]
    refine rise_cons.2 ⟨fun q hq => ?_, chain_rise a _ l h2 fun g hg => hne g (by simp [hg])⟩
    obtain ⟨g, hg, rfl⟩ := List.mem_map.1 hq
    have h3 := (chain_lo _ _ h2 g hg).1
    have h4 : 0 < x.rs.length := List.length_pos_iff.2 (hne x (by simp))
    show x.n < g.n
    omega
end Go.Proofs.Ytkhibpdkgjapgaa.Jrn
