/- Walks of layer 18's reference: Come as a fold wants it. -/
import Derived.Test.YtjnjkgoofkgiiaaTallyW5
import Derived.Test.YtjnjkgoofkgiiaaTallyW6
set_option linter.unusedVariables false
set_option linter.unusedSimpArgs false
namespace Go.Proofs.Ytjnjkgoofkgiiaa.Tally
open Go.RowKit Go.Proofs.YtjnjkgoofkgiiaaW.PrintWords Go.Proofs.YtjnjkgoofkgiiaaW.PrintLast

theorem come_any (key : ByteArray) (r : R) (k base : Nat) (bv : Value) (v : Int) (hv : I64 v) (hk : 1 ≤ k ∧ k ≤ 1000) (ho : Ok k r) (w : World) (hO : Ow w base bv r.b) :
    Calls Try.prog 40 #[RowV key r bv, .int .i64 v] w (Ret key (addR r v) w) := by
  obtain ⟨kind, m, s, le, mo, ov, bs⟩ := r
  obtain ⟨A, n, c, rfl⟩ := hO.slice
  obtain rfl : n = bs.length := hO.len
  by_cases h2 : kind = 2
  · subst h2
    by_cases hl : v < le
    · by_cases hg : mo < v
      · exact come_lastLG key m s le mo ov bs k base A c v hv hk ho hl hg w hO
      · exact come_lastL key m s le mo ov bs k base A c v hv hk ho hl (by omega) w hO
    · by_cases hg : mo < v
      · exact come_lastG key m s le mo ov bs k base A c v hv hk ho (by omega) hg w hO
      · exact come_last key m s le mo ov bs k base A c v hv hk ho (by omega) (by omega) w hO
  · by_cases h3 : kind = 3
    · subst h3
      by_cases hl : v < le
      · by_cases hg : mo < v
        · cases ov
          · exact come_histofLG key m s le mo bs k base A c v hv hk ho hl hg w hO
          · exact come_histotLG key m s le mo bs k base A c v hv hk ho hl hg w hO
        · cases ov
          · exact come_histofL key m s le mo bs k base A c v hv hk ho hl (by omega) w hO
          · exact come_histotL key m s le mo bs k base A c v hv hk ho hl (by omega) w hO
      · by_cases hg : mo < v
        · cases ov
          · exact come_histofG key m s le mo bs k base A c v hv hk ho (by omega) hg w hO
          · exact come_histotG key m s le mo bs k base A c v hv hk ho (by omega) hg w hO
        · cases ov
          · exact come_histof key m s le mo bs k base A c v hv hk ho (by omega) (by omega) w hO
          · exact come_histot key m s le mo bs k base A c v hv hk ho (by omega) (by omega) w hO
    · by_cases hl : v < le
      · by_cases hg : mo < v
        · cases ov
          · exact come_otherfLG key kind h2 h3 m s le mo bs k base A c v hv hk ho hl hg w hO
          · exact come_othertLG key kind h2 h3 m s le mo bs k base A c v hv hk ho hl hg w hO
        · cases ov
          · exact come_otherfL key kind h2 h3 m s le mo bs k base A c v hv hk ho hl (by omega) w hO
          · exact come_othertL key kind h2 h3 m s le mo bs k base A c v hv hk ho hl (by omega) w hO
      · by_cases hg : mo < v
        · cases ov
          · exact come_otherfG key kind h2 h3 m s le mo bs k base A c v hv hk ho (by omega) hg w hO
          · exact come_othertG key kind h2 h3 m s le mo bs k base A c v hv hk ho (by omega) hg w hO
        · cases ov
          · exact come_otherf key kind h2 h3 m s le mo bs k base A c v hv hk ho (by omega) (by omega) w hO
          · exact come_othert key kind h2 h3 m s le mo bs k base A c v hv hk ho (by omega) (by omega) w hO

def zeroR (kind : Int) : R := ⟨kind, 0, 0, 0, 0, false, []⟩
theorem come_zero (key : ByteArray) (kind v : Int) (hv : I64 v) (w : World) :
    Calls Try.prog 40 #[RowV key (zeroR kind) (.slice none 0 0), .int .i64 v] w (Ret key (beginR kind v) w) := by
  by_cases h3 : kind = 3
  · subst h3
    exact come_first3 key v hv w
  · exact come_first key kind h3 v hv w
/-- the reference's row, once so many have come -/
def rowAt (kind : Int) (l : List Int) (k : Nat) : R := if k = 0 then zeroR kind else foldR kind (l.take k)
theorem rowAt_all (kind : Int) (l : List Int) (h : 0 < l.length) : rowAt kind l l.length = foldR kind l := by
  unfold rowAt
  rw [if_neg (by omega), List.take_length]
theorem come_fold (key : ByteArray) (kind : Int) (l : List Int) (hI : ∀ x ∈ l, I64 x) (hl : l.length ≤ 200) (k : Nat) (hk : k < l.length) (base : Nat) (A : Option Addr) (n c : Nat) (h0 : k = 0 → Value.slice A n c = .slice none 0 0) (w : World)
    (hO : Ow w base (.slice A n c) (rowAt kind l k).b) :
    Calls Try.prog 40 #[.agg (RowA key (rowAt kind l k) (.slice A n c)), .int .i64 (l.getD k 0)] w fun e w' =>
      ∃ A' n' c', e = .returned (.agg (RowA key (rowAt kind l (k + 1)) (.slice A' n' c'))) ∧ Ow w' w.heap.size (.slice A' n' c') (rowAt kind l (k + 1)).b ∧ Fr [] w w' := by
  have hv : I64 (l.getD k 0) := by
    rw [List.getD_eq_getElem?_getD, List.getElem?_eq_getElem hk]
    exact hI _ (List.getElem_mem hk)
  have e1 : rowAt kind l (k + 1) = foldR kind (l.take (k + 1)) := by unfold rowAt; rw [if_neg (by omega)]
  rw [e1]
  have fin : ∀ r e w', Ret key r w e w' → ∃ A' n' c', e = .returned (.agg (RowA key r (.slice A' n' c'))) ∧ Ow w' w.heap.size (.slice A' n' c') r.b ∧ Fr [] w w' := by
    rintro r e w' ⟨bv, rfl, h1, h2⟩
    obtain ⟨A', n', c', rfl⟩ := h1.slice
    exact ⟨A', n', c', rfl, h1, h2⟩
  by_cases hz : k = 0
  · subst hz
    rw [h0 rfl]
    have e2 : foldR kind (l.take (0 + 1)) = beginR kind (l.getD 0 0) := by
      cases l with
      | nil => simp at hk
      | cons a l => rfl
    rw [e2]
    exact (come_zero key kind _ hv w).mono fun e w' h => fin _ _ _ h
  · have e0 : rowAt kind l k = foldR kind (l.take k) := by unfold rowAt; rw [if_neg hz]
    rw [e0] at hO ⊢
    rw [fold_take kind l k hk (by omega)]
    exact (come_any key _ k base _ _ hv ⟨by omega, by omega⟩ (fold_ok kind l hI k (by omega) (by omega)) w hO).mono fun e w' h => fin _ _ _ h
end Go.Proofs.Ytjnjkgoofkgiiaa.Tally
