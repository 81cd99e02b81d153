/- Steps over bytes and strings: what a slice reads as (a view), conversions, append of a string, bits. Words for the walks. -/
import Derived.Test.YtdhonbahpcmmnaaDoorEngR
import Derived.Test.YtdhonbahpcmmnaaDoorConv
import Derived.Lib.AppendStr
import Derived.Laws.BytesArg
set_option linter.unusedVariables false
set_option linter.unusedSimpArgs false
namespace Go.Proofs.YtdhonbahpcmmnaaDoor.Eng
open Go Go.RowKit Go.Proofs.YtdhonbahpcmmnaaDoor
def cB (b : UInt8) : List Value := [.int .u8 (b.toNat : Int)]
theorem cB_len (l : List UInt8) : ∀ x ∈ l.map cB, x.length = 1 := by
 intro x hx
 obtain ⟨b, _, rfl⟩ := List.mem_map.1 hx
 rfl
theorem cB_one (l : List UInt8) : ∀ x ∈ l.map cB, x.all oneB = true := by
 intro x hx
 obtain ⟨b, _, rfl⟩ := List.mem_map.1 hx
 rfl
theorem cB_flat : ∀ (l : List UInt8), (l.map cB).flatten = l.map fun b => Value.int .u8 (b.toNat : Int)
 | [] => rfl
 | b :: l => by
  rw [List.map_cons, List.flatten_cons, cB_flat l]
  rfl
def str (l : List UInt8) : ByteArray := ⟨l.toArray⟩
def bs (s : ByteArray) : List UInt8 := s.data.toList
theorem str_bs (s : ByteArray) : str (bs s) = s := by
 cases s with
 | mk d => simp [str, bs]
theorem bs_str (l : List UInt8) : bs (str l) = l := rfl
theorem str_inj {a b : List UInt8} : str a = str b ↔ a = b := ⟨fun h => by have := congrArg bs h; simpa [bs_str] using this, fun h => by rw [h]⟩
theorem bs_inj {a b : ByteArray} : bs a = bs b ↔ a = b := ⟨fun h => by rw [← str_bs a, h, str_bs], fun h => by rw [h]⟩
theorem str_size (l : List UInt8) : (str l).size = l.length := rfl
theorem bs_len (s : ByteArray) : (bs s).length = s.size := rfl
theorem bs_app (a b : ByteArray) : bs (a ++ b) = bs a ++ bs b := by
 unfold bs
 rw [ByteArray.data_append]
 simp
theorem str_app (a b : List UInt8) : str a ++ str b = str (a ++ b) := by
 rw [← bs_inj, bs_app]
 rfl
theorem streq (a b : ByteArray) : (a.toList == b.toList) = decide (a = b) := by
 rw [ByteArray.toList_eq, ByteArray.toList_eq, Bool.eq_iff_iff]
 simp only [beq_iff_eq, decide_eq_true_eq]
 exact bs_inj
theorem strCells_eq (s : ByteArray) : Lib.strCells s = ((bs s).map cB).flatten := (cB_flat _).symm
def VX {α : Type} (cE : α → List Value) (size : Nat) (w : World) (F : List Nat) (A : Option Addr) (q : List α) : Prop :=
 (∀ y ∈ F, y < w.heap.size) ∧ (0 < q.length → ∃ ad, A = some ad ∧ ad.block ∈ F ∧ ∀ i x, q[i]? = some x → ∀ j u, (cE x)[j]? = some u → w.cell? (ad.add (i * size + j)) = some u)
section
variable {α : Type} {cE : α → List Value} {size : Nat} {w w1 : World} {F S : List Nat} {A : Option Addr} {q : List α}
theorem VX.keep (h : VX cE size w F A q) (k : Fr S w w1) (hn : ∀ y ∈ F, y ∉ S) : VX cE size w1 F A q := by
 refine ⟨fun y hy => Nat.lt_of_lt_of_le (h.1 y hy) k.size, fun hp => ?_⟩
 obtain ⟨ad, h1, h2, h3⟩ := h.2 hp
 refine ⟨ad, h1, h2, fun i x hx j u hu => ?_⟩
 have := h3 i x hx j u hu
 rw [World.cell?_of_block (w := w) (w' := w1)]
 ·
  exact this
 ·
  have hb : (ad.add (i * size + j)).block = ad.block := by unfold Addr.add; split <;> rfl
  rw [hb]
  exact k.block _ (h.1 _ h2) (hn _ h2)
theorem VX.keepB {B : Nat} (h : VX cE size w F A q) (k : FrB B w w1) (hn : ∀ y ∈ F, y < B) : VX cE size w1 F A q := by
 have hlt : ∀ y ∈ F, y < w1.heap.size := fun y hy => by
  have h1 := k y (hn y hy)
  have h2 := h.1 y hy
  rcases Nat.lt_or_ge y w1.heap.size with h3 | h3
  ·
   exact h3
  ·
   rw [Array.getElem?_eq_none h3, Array.getElem?_eq_getElem h2] at h1
   cases h1
 refine ⟨hlt, fun hp => ?_⟩
 obtain ⟨ad, h1, h2, h3⟩ := h.2 hp
 refine ⟨ad, h1, h2, fun i x hx j u hu => ?_⟩
 have := h3 i x hx j u hu
 rw [World.cell?_of_block (w := w) (w' := w1)]
 ·
  exact this
 ·
  have hb : (ad.add (i * size + j)).block = ad.block := by unfold Addr.add; split <;> rfl
  rw [hb]
  exact k _ (hn _ h2)
theorem VX.lt (h : VX cE size w F A q) : ∀ y ∈ F, y < w.heap.size := h.1
theorem VX.nil (w : World) (A : Option Addr) : VX cE size w [] A [] := ⟨by simp, fun h => absurd h (Nat.lt_irrefl 0)⟩
theorem VX.get (h : VX cE size w F A q) (hp : 0 < q.length) : ∃ ad, A = some ad ∧ ad.block ∈ F ∧ ∀ i x, q[i]? = some x → ∀ j u, (cE x)[j]? = some u → w.cell? (ad.add (i * size + j)) = some u := h.2 hp
theorem VX.src (h : VX cE size w F A q) (hl : ∀ x ∈ q.map cE, x.length = size) (h1 : ∀ x ∈ q.map cE, x.all oneB = true) (c : Nat) : Src w (.slice A q.length c) q.length (q.map cE).flatten size := by
 refine ⟨A, c, rfl, by rw [flat_len _ hl, List.length_map], fun hp => ?_, flat_one h1⟩
 obtain ⟨ad, h2, _, h3⟩ := h.2 hp
 refine ⟨ad, h2, fun j u hu => ?_⟩
 have hj : j < q.length * size := by
  have := (List.getElem?_eq_some_iff.1 hu).1
  rwa [flat_len _ hl, List.length_map] at this
 have hs : 0 < size := by
  rcases Nat.eq_zero_or_pos size with h0 | h0
  ·
   subst h0; simp at hj
  ·
   exact h0
 have hd : j / size < q.length := (Nat.div_lt_iff_lt_mul hs).2 hj
 have hm : j % size < size := Nat.mod_lt _ hs
 have e : j / size * size + j % size = j := by rw [Nat.mul_comm]; exact Nat.div_add_mod j size
 have hf := flat_at (q.map cE) (j / size) (j % size) hl (by rw [List.length_map]; exact hd) hm
 rw [e, hu, List.getD_eq_getElem?_getD, List.getElem?_map, List.getElem?_eq_getElem hd] at hf
 have := h3 (j / size) q[j / size] (List.getElem?_eq_getElem hd) (j % size) u hf.symm
 rwa [e] at this
theorem VX.drop (h : VX cE size w F A q) (k cap : Nat) (hk : k ≤ q.length) (hc : q.length ≤ cap) : VX cE size w F (if cap = k then A else A.map (·.add (k * size))) (q.drop k) := by
 refine ⟨h.1, fun hp => ?_⟩
 rw [List.length_drop] at hp
 obtain ⟨ad, rfl, h2, h3⟩ := h.2 (by omega)
 rw [if_neg (by omega)]
 refine ⟨ad.add (k * size), rfl, ?_, fun i x hx j u hu => ?_⟩
 ·
  have hb : (ad.add (k * size)).block = ad.block := by unfold Addr.add; split <;> rfl
  rw [hb]
  exact h2
 ·
  rw [List.getElem?_drop] at hx
  have := h3 (k + i) x hx j u hu
  rw [add_add_, show k * size + (i * size + j) = (k + i) * size + j by rw [Nat.add_mul]; omega]
  exact this
theorem VX.take (h : VX cE size w F A q) (k : Nat) : VX cE size w F A (q.take k) := by
 refine ⟨h.1, fun hp => ?_⟩
 rw [List.length_take] at hp
 obtain ⟨ad, rfl, h2, h3⟩ := h.2 (by omega)
 refine ⟨ad, rfl, h2, fun i x hx j u hu => h3 i x ?_ j u hu⟩
 rw [List.getElem?_take] at hx
 split at hx
 ·
  exact hx
 ·
  cases hx
theorem VX.of_row {b : Nat} {T : TypeId} {cap : Nat} (h : RowB w b T size cap (q.map cE)) : VX cE size w [b] (some ⟨b, 0, none⟩) q := by
 refine ⟨fun y hy => ?_, fun _ => ⟨_, rfl, by simp, fun i x hx j u hu => ?_⟩⟩
 ·
  obtain rfl : y = b := by simpa using hy
  exact h.lt
 ·
  have hi := (List.getElem?_eq_some_iff.1 hx).1
  have hxl : (cE x).length = size := h.len _ (List.mem_map.2 ⟨x, List.mem_of_getElem? hx, rfl⟩)
  have hj : j < size := by
   have := (List.getElem?_eq_some_iff.1 hu).1
   omega
  rw [add_blk, Nat.zero_add, h.cell i j (by simpa using hi) hj, List.getD_eq_getElem?_getD, List.getElem?_map, hx]
  exact hu
theorem VX.of_own {T : TypeId} {n cap : Nat} (h : OwnX T size w F (.slice A n cap) (q.map cE)) : VX cE size w F A q := by
 rcases h with ⟨rfl, h2, h3⟩ | ⟨b, cap', rfl, h2, h3⟩
 ·
  obtain rfl : q = [] := List.map_eq_nil_iff.1 h3
  exact VX.nil w A
 ·
  simp only [Value.slice.injEq] at h2
  obtain ⟨rfl, _, _⟩ := h2
  exact VX.of_row h3
end
section
variable {α : Type} {cE : α → List Value} {size : Nat} {w : World} {F : List Nat} {A : Option Addr} {q : List α}
theorem VX.srcN {n : Nat} (h : VX cE size w F A q) (hn : q.length = n) (hl : ∀ x ∈ q.map cE, x.length = size) (h1 : ∀ x ∈ q.map cE, x.all oneB = true) (c : Nat) : Src w (.slice A n c) n (q.map cE).flatten size := by
 subst hn
 exact h.src hl h1 c
theorem VX.at {ad : Addr} (h : VX cE size w F A q) (hA : A = some ad) {i : Nat} {x : α} (hx : q[i]? = some x) (j : Nat) {u : Value} (hu : (cE x)[j]? = some u) : w.cell? ((ad.add (i * size)).add j) = some u := by
 obtain ⟨ad', h1, _, h3⟩ := h.2 (by have := (List.getElem?_eq_some_iff.1 hx).1; omega)
 rw [hA] at h1
 simp only [Option.some.injEq] at h1
 subst h1
 rw [add_add_]
 exact h3 i x hx j u hu
theorem add_0 (a : Addr) : a.add 0 = a := by
 unfold Addr.add
 rw [if_pos rfl]
theorem VX.at0 {ad : Addr} (h : VX cE size w F A q) (hA : A = some ad) {i : Nat} {x : α} (hx : q[i]? = some x) {u : Value} (hu : (cE x)[0]? = some u) : w.cell? (ad.add (i * size)) = some u := by
 have := h.at hA hx 0 hu
 rwa [add_0] at this
theorem VX.part {ad : Addr} (h : VX cE size w F A q) (hA : A = some ad) {i : Nat} {x : α} (hx : q[i]? = some x) (j : Nat) (vs : List Value) (hvs : ((cE x).drop j).take vs.length = vs) : ∀ k, k < vs.length → w.cell? (((ad.add (i * size)).add j).add k) = vs[k]? := by
 intro k hk
 have h2 := congrArg (fun l => l[k]?) hvs
 simp only [List.getElem?_take, hk, if_true, List.getElem?_drop] at h2
 rw [add_add_]
 rw [h.at hA hx (j + k) (by rw [h2]; exact List.getElem?_eq_getElem hk)]
 exact (List.getElem?_eq_getElem hk).symm
theorem VX.part0 {ad : Addr} (h : VX cE size w F A q) (hA : A = some ad) {i : Nat} {x : α} (hx : q[i]? = some x) (vs : List Value) (hvs : ((cE x).drop 0).take vs.length = vs) : ∀ k, k < vs.length → w.cell? ((ad.add (i * size)).add k) = vs[k]? := by
 have := h.part hA hx 0 vs hvs
 rwa [add_0] at this
theorem VX.addr (h : VX cE size w F A q) {i : Nat} (hi : i < q.length) : ∃ ad, A = some ad := by
 obtain ⟨ad, h1, _⟩ := h.2 (by omega)
 exact ⟨ad, h1⟩
end
theorem grow_in {B : Nat} {F F' T : List Nat} {w : World} (hg : ∀ y ∈ F', y ∈ F ∨ w.heap.size ≤ y) (h : ∀ y ∈ F, y ∈ T ∨ B ≤ y) (hB : B ≤ w.heap.size) : ∀ y ∈ F', y ∈ T ∨ B ≤ y := fun y hy => (hg y hy).elim (h y) (fun k => .inr (Nat.le_trans hB k))
def gB (q : List UInt8) (i : Nat) : UInt8 := q.getD i 0
theorem gB_some (q : List UInt8) (i : Nat) (h : i < q.length) : q[i]? = some (gB q i) := by
 unfold gB
 rw [List.getD_eq_getElem?_getD, List.getElem?_eq_getElem h]
 rfl
theorem drop_gB (q : List UInt8) (i : Nat) (h : i < q.length) : q.drop i = gB q i :: q.drop (i + 1) := by
 rw [List.drop_eq_getElem_cons h]
 congr 1
 have := gB_some q i h
 rw [List.getElem?_eq_getElem h] at this
 exact Option.some.inj this
section
variable {P : Program} {ι : Type} {ops : Array Oper} {N : Nat} {S : ι → Act → World → Prop} {R : World → World → Prop} {x y : ι} {o : Oper} {e e' : Env} {w : World}
def ixoAt (P : Program) (ops : Array Oper) (N : Nat) (e : Env) (o : Oper) : Option (Option Addr × Nat × Int × Nat × Option Tmp) :=
 bif onB ops N e o then
  match o.op with
  | .indexAddr t z u =>
   match ev e z, ev e u, P.underlying t with
   | .slice A n _, .int _ j, some (.slice el) => (P.info? el).map fun x => (A, n, j, x.size, o.dst)
   | _, _, _ => none
  | _ => none
 else none
theorem WO.ixo (hT : TkF P ops S x o y) (d : Nat) {A : Option Addr} {ad : Addr} (n size i : Nat) (j : Int) (hA : A = some ad) (h : ixoAt P ops N e o = some (A, n, j, size, some d)) (hj : j = (i : Int)) (h1 : i < n) (k : WO S N y ((d, .pointer (some (ad.add (i * size)))) :: e) w) : WO S N x e w := by
 subst hA
 subst hj
 refine WO.ix hT d (ad.add (i * size)) ad n size (i : Int) ?_ (Int.natCast_nonneg i) (by omega) (by simp) k
 unfold ixoAt at h
 unfold ixAt
 cases ho : onB ops N e o with
 | false => rw [ho] at h; cases h
 | true =>
  rw [ho] at h
  simp only [cond_true] at h ⊢
  split at h
  ·
   rename_i t z u hop
   rw [hop]
   split at h
   ·
    rename_i A2 n2 c2 kk j2 el hx hy hu
    simp only [hx, hy, hu]
    cases hi : P.info? el with
    | none => rw [hi] at h; cases h
    | some inf =>
     rw [hi] at h
     simp only [Option.map_some, Option.some.injEq, Prod.mk.injEq] at h ⊢
     obtain ⟨rfl, rfl, rfl, rfl, hd⟩ := h
     show (P.info? el).map (fun x => (ad, n2, (i : Int), x.size, o.dst)) = _
     rw [hi, hd]
     rfl
   ·
    cases h
  ·
   cases h
structure BT (P : Program) (tb te ts : TypeId) : Prop where
 b : P.underlying tb = some (.slice te)
 e : P.underlying te = some (.int .u8)
 s : P.underlying ts = some .string
def appSAt (ops : Array Oper) (N : Nat) (e : Env) (o : Oper) : Option (TypeId × TypeId × Value × ByteArray × Option Tmp) :=
 bif onB ops N e o then
  match o.op with
  | .call { callee := .builtin .append, args := ⟨[s, z]⟩, argTypes := ⟨[t, u]⟩ } => (match ev e z with | .string b => some (t, u, ev e s, b, o.dst) | _ => none)
  | _ => none
 else none
theorem WO.appS (hT : TkE P ops R S x o y) (d : Nat) {t ts te : TypeId} {v : Value} {s : ByteArray} (B : BT P t te ts) (E : ET P t te 1 1) (hz : ∃ i, P.info? te = some i ∧ i.zero = some (.int .u8 0)) {F : List Nat} {q : List UInt8} (hx : OwnX te 1 w F v (q.map cB))
  (h : appSAt ops N e o = some (t, ts, v, s, some d)) (hnm : q.length + s.size ≤ 140737488351232) (hR : ∀ w', Fr F w w' → R w w')
  (kk : ∀ v' w' F', OwnX te 1 w' F' v' ((q ++ bs s).map cB) → Fr F w w' → (∀ y ∈ F', y ∈ F ∨ w.heap.size ≤ y) → WO S N y ((d, v') :: e) w') : WO S N x e w := by
 unfold appSAt at h
 cases ho : onB ops N e o with
 | false => rw [ho] at h; cases h
 | true =>
  rw [ho] at h
  simp only [cond_true] at h
  split at h
  ·
   rename_i s' z t' u' hop
   split at h
   ·
    rename_i b hb
    simp only [Option.some.injEq, Prod.mk.injEq] at h
    obtain ⟨rfl, rfl, rfl, rfl, hd⟩ := h
    refine WO.on hT ho fun a ha h3 h4 hcv Q => ?_
    obtain ⟨i, hi, hzz⟩ := hz
    obtain ⟨i', z', hi', hz', hs', hb', hzs⟩ := E.hi
    rw [hi] at hi'
    simp only [Option.some.injEq] at hi'
    subst hi'
    have hlm : (q.map cB).length = q.length := List.length_map _
    obtain ⟨v', w', hr, h5, h6, h7⟩ := Lib.run_append_own_string (P := P) w 0 t' u' o.type te i B.b B.s hi hzz hs' hb' (ev e s') q.length (q.map cB).flatten (by have := hx.own; rwa [hlm] at this) b (by unfold maxLen; omega) (by omega) (Nat.zero_le _)
    have hrun : (execOp (ev e) o).run P w = .ok (.value v') w' := by
     unfold execOp
     simp only [hop, resolve, invoke, builtin, Sem.run_bind, Sem.run_pure, Result.andThen_ok, List.map_toArray, List.map_cons, List.map_nil, hb, hr]
    simp only [Oper.wp, h3, hrun, Oper.upon]
    have hF : Fr F w w' := Fr.of_grown h6 (fun k hk => by
     rcases hx with ⟨_, hv, _⟩ | ⟨b', cap, rfl, hv, _⟩
     ·
      rw [hv] at hk; cases hk
     ·
      rw [hv] at hk
      simp only [Value.ownBlock, Option.some.injEq] at hk
      exact .inl (by simp [hk]))
    have hg : v'.ownBlock = (ev e s').ownBlock ∨ ∀ g, v'.ownBlock = some g → w.heap.size ≤ g := by
     rcases hx with ⟨_, hv, hq⟩ | ⟨b', cap, _, hv, hrow⟩
     ·
      obtain ⟨v2, w2, hr2, h8, _, _⟩ := Lib.run_append_own_string (P := P) w w.heap.size t' u' o.type te i B.b B.s hi hzz hs' hb' (ev e s') 0 [] (by rw [hv]; exact ⟨by simp, .inl ⟨rfl, rfl⟩⟩) b (by unfold maxLen; omega) (by omega) (Nat.le_refl _)
      rw [hr] at hr2
      simp only [Result.ok.injEq] at hr2
      obtain ⟨rfl, rfl⟩ := hr2
      exact .inr fun g hg => (h8.lt g hg).1
     ·
      obtain ⟨cur, h8, h9, _⟩ := hrow.cur
      have hle := hrow.le
      have hcp := hrow.cap
      rw [List.length_map] at hle
      by_cases hroom : q.length + b.size ≤ cap
      ·
       have hr2 := Lib.run_append_room_string (P := P) w t' u' o.type te i B.b B.s hi hs' b' q.length cap cur h8 b hroom (by omega)
       rw [hlm] at hv
       rw [hv, hr2] at hr
       simp only [Result.ok.injEq] at hr
       rw [hv, ← hr.1]
       exact .inl rfl
      ·
       have hown := hrow.own
       have hr2 := Lib.run_append_grow_string (P := P) w t' u' o.type te i (.int .u8 0) B.b B.s hi hzz ⟨b', 0, none⟩ q.length cap (q.map cB).flatten (by rw [hs', flat_len _ (cB_len q), hlm]) (hown.cells (g := b') rfl) b (by omega) (by omega) (by rw [hb']; exact growslice_fits (by omega) (by omega))
       rw [hlm] at hv
       rw [hv, hr2] at hr
       simp only [Result.ok.injEq] at hr
       refine .inr fun g hg => ?_
       rw [← hr.1] at hg
       simp only [Value.ownBlock, Option.some.injEq] at hg
       omega
    have h5' : w'.ownsRow 0 te 1 v' (q.length + b.size) ((q ++ bs b).map cB).flatten := by
     rw [List.map_append, List.flatten_append, ← strCells_eq]
     exact h5
    obtain ⟨F', h8, h9⟩ : ∃ F', OwnX te 1 w' F' v' ((q ++ bs b).map cB) ∧ ∀ y ∈ F', y ∈ F ∨ w.heap.size ≤ y := by
     rcases h5'.2 with ⟨h3, h4⟩ | ⟨g, cap, cur, h3, _⟩
     ·
      refine ⟨[], .inl ⟨rfl, h3, ?_⟩, by simp⟩
      have : q ++ bs b = [] := List.length_eq_zero_iff.1 (by rw [List.length_append, bs_len]; exact h4)
      rw [this]
      rfl
     ·
      subst h3
      refine ⟨[g], .inr ⟨g, cap, rfl, by rw [List.length_map, List.length_append, bs_len], RowB.of_own h5' (by rw [List.length_map, List.length_append, bs_len]) (cB_len _) (cB_one _)⟩, fun y hy => ?_⟩
      obtain rfl : y = g := by simpa using hy
      rcases hg with hg | hg
      ·
       rcases hx with ⟨_, hv, _⟩ | ⟨b', cap', rfl, hv, _⟩
       ·
        rw [hv] at hg; cases hg
       ·
        rw [hv] at hg
        simp only [Value.ownBlock, Option.some.injEq] at hg
        exact .inl (by simp [hg])
      ·
       exact .inr (hg y rfl)
    have hp := ha.put o.dst v' h4
    rw [hd] at hp ⊢
    exact ⟨hR _ hF, kk v' w' F' h8 hF h9 _ hp⟩
   ·
    cases h
  ·
   cases h
def catAt (ops : Array Oper) (N : Nat) (e : Env) (o : Oper) : Option (ByteArray × ByteArray × Option Tmp) :=
 bif onB ops N e o then
  match o.op with
  | .binOp .add _ z u _ => (match ev e z, ev e u with | .string a, .string b => some (a, b, o.dst) | _, _ => none)
  | _ => none
 else none
theorem WO.cat (hT : TkF P ops S x o y) (d : Nat) (a b : ByteArray) (h : catAt ops N e o = some (a, b, some d)) (hb : a.size + b.size ≤ 9223372036854775807) (kk : WO S N y ((d, .string (a ++ b)) :: e) w) : WO S N x e w := by
 unfold catAt at h
 cases ho : onB ops N e o with
 | false => rw [ho] at h; cases h
 | true =>
  rw [ho] at h
  simp only [cond_true] at h
  split at h
  ·
   rename_i t z u yt hop
   split at h
   ·
    rename_i a1 b1 hz hu
    simp only [Option.some.injEq, Prod.mk.injEq] at h
    obtain ⟨rfl, rfl, hd⟩ := h
    refine WO.valF hT ho (v := .string (a1 ++ b1)) (fun w' => ?_) (by rw [hd]; exact kk)
    have hm : ¬ ((a1.size + b1.size : Nat) : Int) > IntKind.i64.max := by
     have : IntKind.i64.max = 9223372036854775807 := by decide
     omega
    have hs : Op.stringOp .add a1 b1 = pure (.string (a1 ++ b1)) := by
     unfold Op.stringOp
     simp only [if_neg hm]
    unfold execOp
    simp [hop, hz, hu, eqGuard, binOp, hs]
   ·
    cases h
  ·
   cases h
end
end Go.Proofs.YtdhonbahpcmmnaaDoor.Eng
