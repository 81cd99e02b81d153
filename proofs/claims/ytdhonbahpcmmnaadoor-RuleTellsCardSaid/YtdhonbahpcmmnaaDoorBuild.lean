/- Layer 4's walks: the reader of lines. -/
import Derived.Test.YtdhonbahpcmmnaaDoorLineW
import Derived.Shelf.Strings.Builder1
import Derived.Shelf.Small.Bits
import Derived.Shelf.Strings.BuilderF
import Derived.Shelf.Strings.BuilderK
import Derived.Shelf.Strconv.Itoa0
import Derived.Shelf.Strconv.Itoa1
import Derived.Shelf.LaysM
import Derived.Shelf.Strconv.Itoa2
import Derived.Shelf.Strconv.Itoa3
import Derived.Shelf.Strconv.Itoa4
import Derived.Shelf.Strconv.ParseIntEmpty
import Derived.Shelf.Strconv.Clone
import Derived.Shelf.Strconv.SyntaxError
import Derived.Shelf.LaysC
import Derived.Shelf.Strconv.ToError
import Derived.Shelf.Strconv.Lower
import Derived.Shelf.Strconv.ParseUint10
import Derived.Shelf.Strconv.ParseUint10Empty
import Derived.Shelf.Strconv.ParseUint10Any
import Derived.Shelf.Strconv.ParseInt10
import Derived.Shelf.Strconv.RangeError
import Derived.Shelf.Strconv.ToErrorRange
import Derived.Shelf.Strconv.ParseUintEmpty
import Derived.Shelf.Strconv.ParseUint10b64
import Derived.Shelf.Strconv.ParseUint10b32
import Derived.Shelf.Strconv.ParseUint10b16
import Derived.Shelf.Strconv.ParseUint10b8
import Derived.Shelf.Strconv.ParseUint10At
import Derived.Shelf.Strconv.ParseInt10At64
import Derived.Shelf.Strconv.ParseInt10At32
import Derived.Shelf.Strconv.ParseInt10At16
import Derived.Shelf.Strconv.ParseInt10At8
import Derived.Shelf.Strconv.ParseInt10All
import Derived.Shelf.Strconv.ParseIntPublic10
import Derived.Shelf.Strconv.ErrVarParseInt
import Derived.Shelf.Strings.Search1
import Derived.Shelf.Strings.Search2
import Derived.Shelf.Strings.Search3
import Derived.Shelf.Strings.Cut
import Derived.Shelf.Strings.Shaped
import Derived.Shelf.Strings.Prefix
import Derived.Shelf.Strings.BuilderCap
import Derived.Test.YtdhonbahpcmmnaaDoorProg
import Derived.Test.YtdhonbahpcmmnaaDoorEng
import Derived.Test.YtdhonbahpcmmnaaDoorLinePure
import Derived.Lib.UnsafeStr
import Derived.Lib.Builder
import Derived.WalkKit
import Derived.Laws.Externs
section
set_option linter.unusedVariables false
set_option linter.unusedSimpArgs false
namespace Go.Proofs.YtdhonbahpcmmnaaDoor.Line
open Go Go.RowKit Go.Proofs.YtdhonbahpcmmnaaDoor Go.Proofs.YtdhonbahpcmmnaaDoor.Eng Go.Proofs.YtdhonbahpcmmnaaDoorW.PrintWords
def runE (pr : UInt8 → Bool) (s : L) (p : Nat) : Nat := p + ((s.drop p).takeWhile pr).length
end Go.Proofs.YtdhonbahpcmmnaaDoor.Line
end
section
set_option linter.unusedVariables false
set_option linter.unusedSimpArgs false
namespace Go.Proofs.YtdhonbahpcmmnaaDoor.Line
open Go Go.RowKit Go.Proofs.YtdhonbahpcmmnaaDoor Go.Proofs.YtdhonbahpcmmnaaDoor.Eng Go.Proofs.YtdhonbahpcmmnaaDoorW.PrintWords
end Go.Proofs.YtdhonbahpcmmnaaDoor.Line
end
section
set_option linter.unusedVariables false
set_option linter.unusedSimpArgs false
namespace Go.Proofs.YtdhonbahpcmmnaaDoor.Line
open Go Go.RowKit Go.Proofs.YtdhonbahpcmmnaaDoor Go.Proofs.YtdhonbahpcmmnaaDoor.Eng Go.Proofs.YtdhonbahpcmmnaaDoorW.PrintWords
end Go.Proofs.YtdhonbahpcmmnaaDoor.Line
end
section
namespace Go.Proofs
open Go.Shelf
def Tryd.lays169_ren : Go.Shelf.Ren := ⟨fun | 169 => 47 | n => n, fun | 70 => 76 | 9 => 9 | 0 => 0 | 72 => 79 | 37 => 77 | 127 => 104 | 3 => 3 | 5 => 5 | n => n, fun | n => n⟩
theorem Tryd.lays169 : Go.Proofs.Lays.n169 Tryd.prog Tryd.lays169_ren := {
 mixed := by kernel_rfl
 f169 := Tryd.func47.trans (congrArg some (by kernel_rfl))
 t0 := Tryd.underlying0
 a0 := Tryd.isAgg0
 z0 := Tryd.sizeOf0
 v0 := Tryd.zeroValue0
 t3 := Tryd.underlying3
 a3 := Tryd.isAgg3
 z3 := Tryd.sizeOf3
 v3 := Tryd.zeroValue3
 t9 := Tryd.underlying9
 a9 := Tryd.isAgg9
 z9 := Tryd.sizeOf9
 v9 := Tryd.zeroValue9
 t37 := Tryd.underlying77
 a37 := Tryd.isAgg77
 z37 := Tryd.sizeOf77
 v37 := Tryd.zeroValue77
 t70 := Tryd.underlying76
 a70 := Tryd.isAgg76
 z70 := Tryd.sizeOf76
 v70 := Tryd.zeroValue76
 t72 := Tryd.underlying79
 a72 := Tryd.isAgg79
 z72 := Tryd.sizeOf79
 v72 := Tryd.zeroValue79
 t127 := Tryd.underlying104
 a127 := Tryd.isAgg104
 z127 := Tryd.sizeOf104
 v127 := Tryd.zeroValue104 }
theorem Tryd.Builder_Extra_169 : Builder.Extra Tryd.prog Tryd.lays169_ren := {
 sizeBuilder := by kernel_rfl
 liesBuilder := by kernel_rfl
 t5 := Tryd.underlying5
 a5 := Tryd.isAgg5
 z5 := Tryd.sizeOf5
 v5 := Tryd.zeroValue5
 infoByte := by kernel_rfl
 cellsByte := by kernel_rfl
 sizeByte := by kernel_rfl
 neB5 := by decide }
open Go.RowKit in
theorem Tryd.Builder_String_any (B b : Nat) (l : List UInt8) (w : World) (h : Lib.IsBuilder 79 5 B b (Lib.byteCells l) w) (hBw : B ≤ w.heap.size) :
  Calls Tryd.prog 47 #[.pointer (some ⟨b, 0, none⟩)] w fun e w' => e = .returned (.string ⟨l.toArray⟩) ∧ Below B w w' := Any.Builder_String_any Tryd.lays169 Tryd.Builder_Extra_169 B b l w h hBw
def Tryd.lays125_ren : Go.Shelf.Ren := ⟨fun | 125 => 87 | 128 => 109 | 129 => 97 | n => n, fun | 46 => 111 | 3 => 3 | 51 => 138 | 53 => 89 | 4 => 4 | 5 => 5 | 9 => 9 | n => n, fun | n => n⟩
theorem Tryd.lays125 : Go.Proofs.Lays.n125 Tryd.prog Tryd.lays125_ren := {
 mixed := by kernel_rfl
 f125 := Tryd.func87.trans (congrArg some (by kernel_rfl))
 f128 := Tryd.func109.trans (congrArg some (by kernel_rfl))
 f129 := Tryd.func97.trans (congrArg some (by kernel_rfl))
 t3 := Tryd.underlying3
 a3 := Tryd.isAgg3
 z3 := Tryd.sizeOf3
 v3 := Tryd.zeroValue3
 t4 := Tryd.underlying4
 a4 := Tryd.isAgg4
 z4 := Tryd.sizeOf4
 v4 := Tryd.zeroValue4
 t5 := Tryd.underlying5
 a5 := Tryd.isAgg5
 z5 := Tryd.sizeOf5
 v5 := Tryd.zeroValue5
 t9 := Tryd.underlying9
 a9 := Tryd.isAgg9
 z9 := Tryd.sizeOf9
 v9 := Tryd.zeroValue9
 t46 := Tryd.underlying111
 a46 := Tryd.isAgg111
 z46 := Tryd.sizeOf111
 v46 := Tryd.zeroValue111
 t51 := Tryd.underlying138
 a51 := Tryd.isAgg138
 z51 := Tryd.sizeOf138
 v51 := Tryd.zeroValue138
 t53 := Tryd.underlying89
 a53 := Tryd.isAgg89
 z53 := Tryd.sizeOf89
 v53 := Tryd.zeroValue89 }
theorem Tryd.bits_Len (x : Int) (w : World) (h0 : 0 ≤ x) (h1 : x ≤ 18446744073709551615) :
  Calls Tryd.prog 87 #[.int .u64 x] w fun e w' => e = .returned (.int .i64 (Lib.bitLen x.toNat)) ∧ w' = w := Any.bits_Len Tryd.lays125 x w h0 h1
def Tryd.laysM173_ren : Go.Shelf.Ren := ⟨fun | 173 => 46 | 246 => 66 | 283 => 82 | 284 => 83 | 285 => 84 | 286 => 85 | 129 => 97 | 317 => 96 | 318 => 98 | 319 => 99 | 320 => 100 | 337 => 115 | 338 => 116 | n => n, fun | 2 => 2 | 3 => 3 | 9 => 9 | 4 => 4 | 171 => 131 | 0 => 0 | 53 => 89 | 37 => 77 | 5 => 5 | 173 => 134 | 212 => 148 | 51 => 138 | 20 => 20 | 213 => 149 | 46 => 111 | 232 => 174 | 233 => 175 | n => n, fun | 17 => 2 | 18 => 5 | 19 => 6 | n => n⟩
theorem Tryd.laysM173 : Go.Proofs.LaysM.n173 Tryd.prog Tryd.laysM173_ren := {
 mixed := by kernel_rfl
 f129 := Tryd.func97.trans (congrArg some (by kernel_rfl))
 f173 := Tryd.func46.trans (congrArg some (by kernel_rfl))
 f246 := Tryd.func66.trans (congrArg some (by kernel_rfl))
 f283 := Tryd.func82.trans (congrArg some (by kernel_rfl))
 f284 := Tryd.func83.trans (congrArg some (by kernel_rfl))
 f285 := Tryd.func84.trans (congrArg some (by kernel_rfl))
 f286 := Tryd.func85.trans (congrArg some (by kernel_rfl))
 f317 := Tryd.func96.trans (congrArg some (by kernel_rfl))
 f318 := Tryd.func98.trans (congrArg some (by kernel_rfl))
 f319 := Tryd.func99.trans (congrArg some (by kernel_rfl))
 f320 := Tryd.func100.trans (congrArg some (by kernel_rfl))
 f337 := Tryd.func115.trans (congrArg some (by kernel_rfl))
 f338 := Tryd.func116.trans (congrArg some (by kernel_rfl))
 t0 := Tryd.underlying0
 a0 := Tryd.isAgg0
 z0 := Tryd.sizeOf0
 v0 := Tryd.zeroValue0
 t2 := Tryd.underlying2
 a2 := Tryd.isAgg2
 z2 := Tryd.sizeOf2
 v2 := Tryd.zeroValue2
 t3 := Tryd.underlying3
 a3 := Tryd.isAgg3
 z3 := Tryd.sizeOf3
 v3 := Tryd.zeroValue3
 t4 := Tryd.underlying4
 a4 := Tryd.isAgg4
 z4 := Tryd.sizeOf4
 v4 := Tryd.zeroValue4
 t5 := Tryd.underlying5
 a5 := Tryd.isAgg5
 z5 := Tryd.sizeOf5
 v5 := Tryd.zeroValue5
 t9 := Tryd.underlying9
 a9 := Tryd.isAgg9
 z9 := Tryd.sizeOf9
 v9 := Tryd.zeroValue9
 t20 := Tryd.underlying20
 a20 := Tryd.isAgg20
 z20 := Tryd.sizeOf20
 v20 := Tryd.zeroValue20
 t37 := Tryd.underlying77
 a37 := Tryd.isAgg77
 z37 := Tryd.sizeOf77
 v37 := Tryd.zeroValue77
 t46 := Tryd.underlying111
 a46 := Tryd.isAgg111
 z46 := Tryd.sizeOf111
 v46 := Tryd.zeroValue111
 t51 := Tryd.underlying138
 a51 := Tryd.isAgg138
 z51 := Tryd.sizeOf138
 v51 := Tryd.zeroValue138
 t53 := Tryd.underlying89
 a53 := Tryd.isAgg89
 z53 := Tryd.sizeOf89
 v53 := Tryd.zeroValue89
 t171 := Tryd.underlying131
 a171 := Tryd.isAgg131
 z171 := Tryd.sizeOf131
 v171 := Tryd.zeroValue131
 t173 := Tryd.underlying134
 a173 := Tryd.isAgg134
 z173 := Tryd.sizeOf134
 v173 := Tryd.zeroValue134
 t212 := Tryd.underlying148
 a212 := Tryd.isAgg148
 z212 := Tryd.sizeOf148
 v212 := Tryd.zeroValue148
 t213 := Tryd.underlying149
 a213 := Tryd.isAgg149
 z213 := Tryd.sizeOf149
 t232 := Tryd.underlying174
 a232 := Tryd.isAgg174
 z232 := Tryd.sizeOf174
 v232 := Tryd.zeroValue174
 t233 := Tryd.underlying175
 a233 := Tryd.isAgg175
 z233 := Tryd.sizeOf175
 v233 := Tryd.zeroValue175
 g17 := by kernel_rfl
 g18 := by kernel_rfl
 g19 := by kernel_rfl
 i0 := by kernel_rfl
 i2 := by kernel_rfl
 i3 := by kernel_rfl
 i4 := by kernel_rfl
 i5 := by kernel_rfl
 i9 := by kernel_rfl
 i20 := by kernel_rfl
 i37 := by kernel_rfl
 i46 := by kernel_rfl
 i51 := by kernel_rfl
 i53 := by kernel_rfl
 i171 := by kernel_rfl
 i173 := by kernel_rfl
 i212 := by kernel_rfl
 i232 := by kernel_rfl
 i233 := by kernel_rfl
 m17 := by kernel_rfl
 m18 := by kernel_rfl
 m19 := by kernel_rfl }
open Go.RowKit Go.Sort Go.Lib in
theorem Tryd.strconv_FormatInt_10 (n : Int) (h0 : -9223372036854775808 ≤ n) (h1 : n ≤ 9223372036854775807) (w : World) (htab : Lib.TabIs Tryd.prog w "internal/strconv.uint64pow10" .u64 Lib.pow10Tab) :
  Calls Tryd.prog 46 #[.int .i64 n, .int .i64 10] w fun e w' => e = .returned (.string ⟨(Lib.itoa n).toArray⟩) ∧ ∃ k os, w' = grow (w.drewN k) os := Any.strconv_FormatInt_10 Tryd.laysM173 n h0 h1 w htab
def Tryd.lays145_ren : Go.Shelf.Ren := ⟨fun | 145 => 51 | 220 => 72 | 219 => 55 | 217 => 73 | 225 => 74 | 224 => 75 | 267 => 76 | 266 => 89 | 314 => 90 | n => n, fun | 9 => 9 | 4 => 4 | 59 => 84 | 3 => 3 | 5 => 5 | 46 => 111 | 146 => 139 | 51 => 138 | n => n, fun | 1 => 1 | n => n⟩
theorem Tryd.lays145 : Go.Proofs.Lays.n145 Tryd.prog Tryd.lays145_ren := {
 mixed := by kernel_rfl
 f145 := Tryd.func51.trans (congrArg some (by kernel_rfl))
 f217 := Tryd.func73.trans (congrArg some (by kernel_rfl))
 f219 := Tryd.func55.trans (congrArg some (by kernel_rfl))
 f220 := Tryd.func72.trans (congrArg some (by kernel_rfl))
 f224 := Tryd.func75.trans (congrArg some (by kernel_rfl))
 f225 := Tryd.func74.trans (congrArg some (by kernel_rfl))
 f266 := Tryd.func89.trans (congrArg some (by kernel_rfl))
 f267 := Tryd.func76.trans (congrArg some (by kernel_rfl))
 f314 := Tryd.func90.trans (congrArg some (by kernel_rfl))
 t3 := Tryd.underlying3
 a3 := Tryd.isAgg3
 z3 := Tryd.sizeOf3
 v3 := Tryd.zeroValue3
 t4 := Tryd.underlying4
 a4 := Tryd.isAgg4
 z4 := Tryd.sizeOf4
 v4 := Tryd.zeroValue4
 t5 := Tryd.underlying5
 a5 := Tryd.isAgg5
 z5 := Tryd.sizeOf5
 v5 := Tryd.zeroValue5
 t9 := Tryd.underlying9
 a9 := Tryd.isAgg9
 z9 := Tryd.sizeOf9
 v9 := Tryd.zeroValue9
 t46 := Tryd.underlying111
 a46 := Tryd.isAgg111
 z46 := Tryd.sizeOf111
 v46 := Tryd.zeroValue111
 t51 := Tryd.underlying138
 a51 := Tryd.isAgg138
 z51 := Tryd.sizeOf138
 v51 := Tryd.zeroValue138
 t59 := Tryd.underlying84
 a59 := Tryd.isAgg84
 z59 := Tryd.sizeOf84
 v59 := Tryd.zeroValue84
 t146 := Tryd.underlying139
 a146 := Tryd.isAgg139
 z146 := Tryd.sizeOf139
 v146 := Tryd.zeroValue139
 g1 := by kernel_rfl }
open Go.RowKit Go.Lib in
theorem Tryd.strings_Cut (s sep : ByteArray) (m : Int) (w : World) (hs : s.size < 4294967281) (hm : w.cell? ⟨1, 0, none⟩ = some (.int .i64 m)) :
  Calls Tryd.prog 51 #[.string s, .string sep] w fun e w' => e = .returned (.tuple #[.string ⟨(Lib.cut s.data.toList sep.data.toList).1.toArray⟩, .string ⟨(Lib.cut s.data.toList sep.data.toList).2.1.toArray⟩, .bool (Lib.cut s.data.toList sep.data.toList).2.2]) ∧ ∃ n, w' = w.drewN n := Any.strings_Cut Tryd.lays145 s sep m w hs hm
def Tryd.lays99_ren : Go.Shelf.Ren := ⟨fun | 99 => 30 | 206 => 52 | n => n, fun | 9 => 9 | 4 => 4 | 3 => 3 | n => n, fun | n => n⟩
theorem Tryd.lays99 : Go.Proofs.Lays.n99 Tryd.prog Tryd.lays99_ren := {
 mixed := by kernel_rfl
 f99 := Tryd.func30.trans (congrArg some (by kernel_rfl))
 f206 := Tryd.func52.trans (congrArg some (by kernel_rfl))
 t3 := Tryd.underlying3
 a3 := Tryd.isAgg3
 z3 := Tryd.sizeOf3
 v3 := Tryd.zeroValue3
 t4 := Tryd.underlying4
 a4 := Tryd.isAgg4
 z4 := Tryd.sizeOf4
 v4 := Tryd.zeroValue4
 t9 := Tryd.underlying9
 a9 := Tryd.isAgg9
 z9 := Tryd.sizeOf9
 v9 := Tryd.zeroValue9 }
open Go.RowKit Go.Lib in
theorem Tryd.strings_HasPrefix (s p : ByteArray) (w : World) :
  Calls Tryd.prog 30 #[.string s, .string p] w fun e w' => e = .returned (.bool (Lib.hasPrefix s.data.toList p.data.toList)) ∧ w' = w := Any.strings_HasPrefix Tryd.lays99 s p w
end Go.Proofs
end
section
set_option linter.unusedVariables false
set_option linter.unusedSimpArgs false
namespace Go.Proofs.YtdhonbahpcmmnaaDoor.Line
open Go Go.RowKit Go.Proofs.YtdhonbahpcmmnaaDoor Go.Proofs.YtdhonbahpcmmnaaDoor.Eng Go.Proofs.YtdhonbahpcmmnaaDoorW.PrintWords
open Go.Proofs
end Go.Proofs.YtdhonbahpcmmnaaDoor.Line
end
section
set_option maxHeartbeats 400000
namespace Go.Proofs.YtdhonbahpcmmnaaDoor.Line
open Go Go.RowKit Go.Proofs.YtdhonbahpcmmnaaDoor Go.Proofs.YtdhonbahpcmmnaaDoor.Eng Go.Proofs.YtdhonbahpcmmnaaDoorW.PrintWords
end Go.Proofs.YtdhonbahpcmmnaaDoor.Line
end
section
set_option maxHeartbeats 400000
namespace Go.Proofs.YtdhonbahpcmmnaaDoor.Line
open Go Go.RowKit Go.Proofs.YtdhonbahpcmmnaaDoor Go.Proofs.YtdhonbahpcmmnaaDoor.Eng Go.Proofs.YtdhonbahpcmmnaaDoorW.PrintWords
end Go.Proofs.YtdhonbahpcmmnaaDoor.Line
end
section
namespace Go.Proofs.YtdhonbahpcmmnaaDoor.Line
open Go Go.RowKit Go.Proofs.YtdhonbahpcmmnaaDoor Go.Proofs.YtdhonbahpcmmnaaDoor.Eng Go.Proofs.YtdhonbahpcmmnaaDoorW.PrintWords
def isAt (s : L) (p : Nat) (c : Nat) : Prop := p < s.length ∧ (gB s p).toNat = c
instance (s : L) (p c : Nat) : Decidable (isAt s p c) := inferInstanceAs (Decidable (_ ∧ _))
def part (s : L) (p : Nat) : L := (s.take (runE inW s p)).drop p
def kindP (c : UInt8) : Int := if c.toNat = 99 then 1 else if c.toNat = 103 then 2 else if c.toNat = 104 then 3 else 0
variable {s : L} {ts : List (L × L)} {p : Nat} {k v t : Int}
end Go.Proofs.YtdhonbahpcmmnaaDoor.Line
end
section
set_option linter.unusedVariables false
set_option linter.unusedSimpArgs false
namespace Go.Proofs.YtdhonbahpcmmnaaDoor.Line
open Go Go.RowKit Go.Proofs.YtdhonbahpcmmnaaDoor Go.Proofs.YtdhonbahpcmmnaaDoor.Eng Go.Proofs.YtdhonbahpcmmnaaDoorW.PrintWords
def dig (n : Nat) : UInt8 := UInt8.ofNat (48 + n)
theorem digs_lo {n : Nat} (h : n < 10) : digs n = [dig (n % 10)] := by
 rw [digs, dif_pos h]
 unfold dig
 rw [Nat.mod_eq_of_lt h]
theorem digs_hi {n : Nat} (h : ¬ n < 10) : digs n = digs (n / 10) ++ [dig (n % 10)] := by
 rw [digs, dif_neg h]
 rfl
theorem digs_len : ∀ (k n : Nat), n < 10 ^ (k + 1) → (digs n).length ≤ k + 1
 | 0, n, h => by
  rw [digs_lo (by simpa using h)]
  simp
 | k + 1, n, h => by
  by_cases hn : n < 10
  ·
   rw [digs_lo hn]
   simp
  ·
   rw [digs_hi hn, List.length_append]
   have := digs_len k (n / 10) (by rw [Nat.pow_succ] at h; omega)
   simp only [List.length_cons, List.length_nil]
   omega
theorem num_len (z : Int) (h : -9223372036854775808 ≤ z ∧ z ≤ 9223372036854775807) : (numT z).length ≤ 21 := by
 unfold numT
 split
 ·
  have := digs_len 19 z.natAbs (by omega)
  simp only [List.length_cons]
  omega
 ·
  have := digs_len 19 z.toNat (by omega)
  omega
def tagT (t : L × L) : L := 44 :: t.1 ++ (61 :: t.2)
def hd (ev : Ev) (i : Nat) : L := ev.name ++ ((ev.tags.take i).map tagT).flatten
theorem hd_0 (ev : Ev) : hd ev 0 = ev.name := by simp [hd]
theorem hd_s (ev : Ev) (i : Nat) (h : i < ev.tags.length) : hd ev (i + 1) = hd ev i ++ (44 :: (gT ev.tags i).1 ++ (61 :: (gT ev.tags i).2)) := by
 unfold hd
 rw [List.take_add_one, gT_some ev.tags i h]
 simp [tagT]
theorem hd_all (ev : Ev) : hd ev ev.tags.length = headT ev := by
 unfold hd headT
 rw [List.take_length]
 rfl
theorem few_n {ev : Ev} (h : fewE ev = true) : ev.tags.length ≤ 20 ∧ ev.name.length ≤ 100 := by
 unfold fewE at h
 simp only [Bool.and_eq_true, decide_eq_true_eq] at h
 omega
theorem few_tag {ev : Ev} (h : fewE ev = true) (i : Nat) (hi : i < ev.tags.length) : (gT ev.tags i).1.length ≤ 100 ∧ (gT ev.tags i).2.length ≤ 100 := by
 unfold fewE at h
 simp only [Bool.and_eq_true] at h
 have := all_gT.1 h.1.1 i hi
 simpa using this
theorem hd_len {ev : Ev} (h : fewE ev = true) : ∀ i, i ≤ ev.tags.length → (hd ev i).length ≤ 100 + i * 202
 | 0, _ => by
  rw [hd_0]
  have := few_n h
  omega
 | i + 1, hi => by
  have h1 := hd_len h i (by omega)
  have h2 := few_tag h i (by omega)
  rw [hd_s ev i (by omega)]
  simp only [List.length_append, List.length_cons]
  omega
theorem letter_eq {k : Int} (h : 1 ≤ k ∧ k ≤ 3) : (([99, 103, 104] : List UInt8).take k.toNat).drop (k - 1).toNat = letter k := by
 have : k = 1 ∨ k = 2 ∨ k = 3 := by omega
 rcases this with rfl | rfl | rfl <;> rfl
set_option maxRecDepth 100000 in
set_option maxHeartbeats 400000 in
theorem head_f (ev : Ev) (A : Option Addr) (n cp : Nat) (F : List Nat) (w : World) (HT : VX cT 2 w F A ev.tags) (hn : ev.tags.length = n) (hnn : n ≤ 9223372036854775807) (hfew : fewE ev = true) :
  Calls Tryd.prog 32 #[.agg #[.string (str ev.name), .slice A n cp, .int .i64 ev.kind, .int .i64 ev.value, .int .i64 ev.time]] w fun e w' => e = .returned (.string (str (headT ev))) ∧ Fr [] w w' := by
 have HA := Fr.refl [] w
 refine enter (N := 32) Tryd.func32 (c := _) rfl (by kernel_rfl) (by kernel_rfl) (e := [(0, .agg #[.string (str ev.name), .slice A n cp, .int .i64 ev.kind, .int .i64 ev.value, .int .i64 ev.time])]) (by kernel_rfl) ?_
 refine WE.seq ?_
 refine WE.region ?_
 refine WO.bx (SQ.E 0 (by kernel_rfl)) 1 #[.string (str ev.name), .slice A n cp, .int .i64 ev.kind, .int .i64 ev.value, .int .i64 ev.time] 25 (fun g => .pointer (some ⟨g, 0, none⟩)) (by kernel_rfl) (fun _ _ => trivial) ?_
 intro g1 w2 HB4 F3 le5 _
 have nin_g1_F : g1 ∉ F := new_nin HT.lt le5
 have ge_HA_g1 := Nat.le_trans HA.size le5
 have HT := HT.keep F3 (fun _ _ => nin0 _)
 have HA := Fr.step0 HA F3
 refine WO.run 1 1 [(2, .string (⟨#[]⟩))] (by kernel_rfl) (by kernel_rfl) ?_
 refine WO.done (by kernel_rfl) ?_
 refine WQ.keep [0, 1, 2] (e' := [(0, .agg #[.string (str ev.name), .slice A n cp, .int .i64 ev.kind, .int .i64 ev.value, .int .i64 ev.time]), (1, .pointer (some ⟨g1, 0, none⟩)), (2, .string (⟨#[]⟩))]) (by kernel_rfl) ?_
 refine WQ.thenN ?_
 refine WE.seq ?_
 refine WE.region ?_
 refine WO.run 1 0 [(5, .pointer (some ⟨g1, 0, none⟩))] (by kernel_rfl) (by kernel_rfl) ?_
 refine WO.ld (SQ.S 1 (by kernel_rfl)) 6 (.string (str ev.name)) (by kernel_rfl) (same (HB4.at 0 (by kernel_rfl))) ?_
 refine WO.run 1 2 [(3, .string (str ev.name))] (by kernel_rfl) (by kernel_rfl) ?_
 refine WO.done (by kernel_rfl) ?_
 refine WQ.keep [0, 1, 2, 3] (e' := [(0, .agg #[.string (str ev.name), .slice A n cp, .int .i64 ev.kind, .int .i64 ev.value, .int .i64 ev.time]), (1, .pointer (some ⟨g1, 0, none⟩)), (2, .string (⟨#[]⟩)), (3, .string (str ev.name))]) (by kernel_rfl) ?_
 refine WQ.thenN ?_
 refine WE.seq ?_
 refine WE.seq ?_
 refine WE.region ?_
 refine WO.run 1 0 [(4, .int .i64 0)] (by kernel_rfl) (by kernel_rfl) ?_
 refine WO.done (by kernel_rfl) ?_
 refine WQ.keep [0, 1, 2, 3, 4] (e' := [(0, .agg #[.string (str ev.name), .slice A n cp, .int .i64 ev.kind, .int .i64 ev.value, .int .i64 ev.time]), (1, .pointer (some ⟨g1, 0, none⟩)), (2, .string (⟨#[]⟩)), (3, .string (str ev.name)), (4, .int .i64 0)]) (by kernel_rfl) ?_
 refine WQ.thenN ?_
 refine WE.block ?_
 refine WE.env (e' := [(0, .agg #[.string (str ev.name), .slice A n cp, .int .i64 ev.kind, .int .i64 ev.value, .int .i64 ev.time]), (1, .pointer (some ⟨g1, 0, none⟩)), (2, .string (⟨#[]⟩)), (3, .string (str (hd ev 0))), (4, .int .i64 0)]) (by rw [hd_0]) ?_
 refine WE.loop (α := Nat) (E := fun i => [(0, .agg #[.string (str ev.name), .slice A n cp, .int .i64 ev.kind, .int .i64 ev.value, .int .i64 ev.time]), (1, .pointer (some ⟨g1, 0, none⟩)), (3, .string (str (hd ev i))), (4, .int .i64 (i : Int))]) (I := fun i wr => i ≤ n ∧ Blk wr g1 #[.string (str ev.name), .slice A n cp, .int .i64 ev.kind, .int .i64 ev.value, .int .i64 ev.time] 25 ∧ VX cT 2 wr F A ev.tags ∧ Fr [] w wr) (m := fun i => n - i) 0 [0, 1, 3, 4] (by kernel_rfl) ?_ ?_
 ·
  exact ⟨Nat.zero_le _, HB4, HT, HA⟩
 rintro i wr ⟨hi, HB, HT, HA⟩
 refine WE.seq ?_
 refine WE.seq ?_
 refine WE.region ?_
 refine WO.run 2 0 [(8, .pointer (some ⟨g1, 1, none⟩)), (7, .int .i64 (i : Int))] (by kernel_rfl) (by kernel_rfl) ?_
 refine WO.ld (SQ.S 2 (by kernel_rfl)) 9 (.slice A n cp) (by kernel_rfl) (same (HB.at 1 (by kernel_rfl))) ?_
 refine WO.run 1 3 [(10, .int .i64 (n : Int))] (by kernel_rfl) (by kernel_rfl) ?_
 refine WO.one (SQ.F 4 (by kernel_rfl)) 11 (.bool (decide (((i : Int) : Int) < (n : Int)))) (by kernel_rfl) ?_
 refine WO.topP (((i : Int) : Int) < (n : Int)) ?_ ?_
 ·
  intro h6
  refine WO.done (by kernel_rfl) ?_
  refine WQ.keep [0, 1, 3, 4, 11] (e' := [(0, .agg #[.string (str ev.name), .slice A n cp, .int .i64 ev.kind, .int .i64 ev.value, .int .i64 ev.time]), (1, .pointer (some ⟨g1, 0, none⟩)), (3, .string (str (hd ev i))), (4, .int .i64 (i : Int)), (11, .bool true)]) (by kernel_rfl) ?_
  refine WQ.thenN ?_
  refine WE.condT (by kernel_rfl) ?_
  refine WE.skip ?_
  refine WQ.thenN ?_
  refine WE.seq ?_
  refine WE.block ?_
  have hhl := hd_len hfew i (by omega)
  obtain ⟨ht1, ht2⟩ := few_tag hfew i (by omega)
  have hn20 := few_n hfew
  refine WE.draw [.free, .free, .free, .still, .free, .free, .free, .still, .free, .free, .free, .still, .free, .free, .free, .still, .free, .free] Same sameR (by kernel_rfl) 18 (Array.replicate 18 false) (by kernel_rfl) rfl ?_
  intro w7 F8 _
  have HB := Blk.keep HB F8 (nin0 _)
  have HT := HT.keep F8 (fun _ _ => nin0 _)
  have HA := Fr.step0 HA F8
  refine WO.one (SA.F sameR sameT _ 0 _ (by kernel_rfl)) 14 (.string (str (hd ev i))) (by kernel_rfl) ?_
  refine WO.cat (SA.F sameR sameT _ 1 _ (by kernel_rfl)) 15 (str (hd ev i)) (str ([44] : List UInt8)) (by kernel_rfl) (by simp only [str_size, List.length_append, List.length_cons, List.length_nil]; omega) ?_
  refine WO.top (v' := .string (str ((hd ev i) ++ ([44] : List UInt8)))) (congrArg Value.string (str_app _ _)) ?_
  refine WO.one (SA.F sameR sameT _ 2 _ (by kernel_rfl)) 16 (.pointer (some ⟨g1, 1, none⟩)) (by kernel_rfl) ?_
  refine WO.ld (SA.S sameR sameT _ 3 _ (by kernel_rfl)) 17 (.slice A n cp) (by kernel_rfl) (same (HB.at 1 (by kernel_rfl))) ?_
  refine WO.one (SA.F sameR sameT _ 4 _ (by kernel_rfl)) 18 (.int .i64 (i : Int)) (by kernel_rfl) ?_
  obtain ⟨ad9, hA10⟩ := HT.addr (i := i) (by have := hn; omega)
  refine WO.ixo (SA.F sameR sameT _ 5 _ (by kernel_rfl)) 19 n 2 i (i : Int) hA10 (by kernel_rfl) rfl (by omega) ?_
  refine WO.one (SA.F sameR sameT _ 6 _ (by kernel_rfl)) 20 (.pointer (some (ad9.add (i * 2)))) (by kernel_rfl) ?_
  refine WO.ld (SA.S sameR sameT _ 7 _ (by kernel_rfl)) 21 (.string (str (gT ev.tags i).1)) (by kernel_rfl) (same (HT.at0 hA10 (gT_some ev.tags i (by have := hn; omega)) (by kernel_rfl))) ?_
  refine WO.cat (SA.F sameR sameT _ 8 _ (by kernel_rfl)) 22 (str ((hd ev i) ++ ([44] : List UInt8))) (str (gT ev.tags i).1) (by kernel_rfl) (by simp only [str_size, List.length_append, List.length_cons, List.length_nil]; omega) ?_
  refine WO.top (v' := .string (str (((hd ev i) ++ ([44] : List UInt8)) ++ (gT ev.tags i).1))) (congrArg Value.string (str_app _ _)) ?_
  refine WO.cat (SA.F sameR sameT _ 9 _ (by kernel_rfl)) 23 (str (((hd ev i) ++ ([44] : List UInt8)) ++ (gT ev.tags i).1)) (str ([61] : List UInt8)) (by kernel_rfl) (by simp only [str_size, List.length_append, List.length_cons, List.length_nil]; omega) ?_
  refine WO.top (v' := .string (str ((((hd ev i) ++ ([44] : List UInt8)) ++ (gT ev.tags i).1) ++ ([61] : List UInt8)))) (congrArg Value.string (str_app _ _)) ?_
  refine WO.one (SA.F sameR sameT _ 10 _ (by kernel_rfl)) 24 (.pointer (some ⟨g1, 1, none⟩)) (by kernel_rfl) ?_
  refine WO.ld (SA.S sameR sameT _ 11 _ (by kernel_rfl)) 25 (.slice A n cp) (by kernel_rfl) (same (HB.at 1 (by kernel_rfl))) ?_
  refine WO.one (SA.F sameR sameT _ 12 _ (by kernel_rfl)) 26 (.int .i64 (i : Int)) (by kernel_rfl) ?_
  obtain ⟨ad11, hA12⟩ := HT.addr (i := i) (by have := hn; omega)
  refine WO.ixo (SA.F sameR sameT _ 13 _ (by kernel_rfl)) 27 n 2 i (i : Int) hA12 (by kernel_rfl) rfl (by omega) ?_
  refine WO.one (SA.F sameR sameT _ 14 _ (by kernel_rfl)) 28 (.pointer (some ((ad11.add (i * 2)).add 1))) (by kernel_rfl) ?_
  refine WO.ld (SA.S sameR sameT _ 15 _ (by kernel_rfl)) 29 (.string (str (gT ev.tags i).2)) (by kernel_rfl) (same (HT.at hA12 (gT_some ev.tags i (by have := hn; omega)) 1 (by kernel_rfl))) ?_
  refine WO.cat (SA.F sameR sameT _ 16 _ (by kernel_rfl)) 30 (str ((((hd ev i) ++ ([44] : List UInt8)) ++ (gT ev.tags i).1) ++ ([61] : List UInt8))) (str (gT ev.tags i).2) (by kernel_rfl) (by simp only [str_size, List.length_append, List.length_cons, List.length_nil]; omega) ?_
  refine WO.top (v' := .string (str (((((hd ev i) ++ ([44] : List UInt8)) ++ (gT ev.tags i).1) ++ ([61] : List UInt8)) ++ (gT ev.tags i).2))) (congrArg Value.string (str_app _ _)) ?_
  refine WO.one (SA.F sameR sameT _ 17 _ (by kernel_rfl)) 3 (.string (str (((((hd ev i) ++ ([44] : List UInt8)) ++ (gT ev.tags i).1) ++ ([61] : List UInt8)) ++ (gT ev.tags i).2))) (by kernel_rfl) ?_
  refine WO.doneA (by kernel_rfl) ?_
  refine WQ.keep [0, 1, 3, 4, 11] (e' := [(0, .agg #[.string (str ev.name), .slice A n cp, .int .i64 ev.kind, .int .i64 ev.value, .int .i64 ev.time]), (1, .pointer (some ⟨g1, 0, none⟩)), (3, .string (str (((((hd ev i) ++ ([44] : List UInt8)) ++ (gT ev.tags i).1) ++ ([61] : List UInt8)) ++ (gT ev.tags i).2))), (4, .int .i64 (i : Int)), (11, .bool true)]) (by kernel_rfl) ?_
  refine WQ.blkN ?_
  refine WQ.thenN ?_
  refine WE.region ?_
  refine WO.run 1 0 [(12, .int .i64 (i : Int))] (by kernel_rfl) (by kernel_rfl) ?_
  refine WO.one (SQ.F 1 (by kernel_rfl)) 13 (.int .i64 (IntKind.i64.wrap ((i : Int) + 1))) (by kernel_rfl) ?_
  refine WO.top (v' := .int .i64 ((i + 1 : Nat) : Int)) (wrap_i64 (by omega) (by omega)) ?_
  refine WO.run 1 2 [(4, .int .i64 ((i + 1 : Nat) : Int))] (by kernel_rfl) (by kernel_rfl) ?_
  refine WO.done (by kernel_rfl) ?_
  refine WQ.keep [0, 1, 3, 4, 11] (e' := [(0, .agg #[.string (str ev.name), .slice A n cp, .int .i64 ev.kind, .int .i64 ev.value, .int .i64 ev.time]), (1, .pointer (some ⟨g1, 0, none⟩)), (3, .string (str (((((hd ev i) ++ ([44] : List UInt8)) ++ (gT ev.tags i).1) ++ ([61] : List UInt8)) ++ (gT ev.tags i).2))), (4, .int .i64 ((i + 1 : Nat) : Int)), (11, .bool true)]) (by kernel_rfl) ?_
  refine WQ.env (e' := [(0, .agg #[.string (str ev.name), .slice A n cp, .int .i64 ev.kind, .int .i64 ev.value, .int .i64 ev.time]), (1, .pointer (some ⟨g1, 0, none⟩)), (3, .string (str (hd ev (i + 1)))), (4, .int .i64 ((i + 1 : Nat) : Int)), (11, .bool true)]) (by rw [hd_s ev i (by omega)]; simp only [List.append_assoc, List.cons_append, List.nil_append, List.singleton_append]) ?_
  refine WQ.round ?_
  intro a_ ha_
  refine ⟨i + 1, ?_, ha_.keep [0, 1, 3, 4] (by kernel_rfl), ?_⟩
  ·
   omega
  ·
   exact ⟨by omega, HB, HT, HA⟩
 intro h6
 refine WO.done (by kernel_rfl) ?_
 refine WQ.keep [0, 1, 3, 4, 11] (e' := [(0, .agg #[.string (str ev.name), .slice A n cp, .int .i64 ev.kind, .int .i64 ev.value, .int .i64 ev.time]), (1, .pointer (some ⟨g1, 0, none⟩)), (3, .string (str (hd ev i))), (4, .int .i64 (i : Int)), (11, .bool false)]) (by kernel_rfl) ?_
 refine WQ.thenN ?_
 refine WE.condF (by kernel_rfl) ?_
 refine WE.exit ?_
 refine WQ.thenE ?_
 refine WQ.thenE ?_
 refine WQ.blkE ?_
 refine WQ.thenN ?_
 refine WE.seq ?_
 refine WE.region ?_
 refine WO.run 2 0 [(2, .string (str (hd ev i))), (31, .string (str (hd ev i)))] (by kernel_rfl) (by kernel_rfl) ?_
 refine WO.done (by kernel_rfl) ?_
 refine WQ.keep [0, 1, 2, 3, 4, 11] (e' := [(0, .agg #[.string (str ev.name), .slice A n cp, .int .i64 ev.kind, .int .i64 ev.value, .int .i64 ev.time]), (1, .pointer (some ⟨g1, 0, none⟩)), (2, .string (str (hd ev i))), (3, .string (str (hd ev i))), (4, .int .i64 (i : Int)), (11, .bool false)]) (by kernel_rfl) ?_
 refine WQ.thenN ?_
 refine WE.ret ?_
 refine WQ.ret (v := .string (str (hd ev i))) (by kernel_rfl) ?_
 exact ⟨by rw [show i = ev.tags.length by omega, hd_all], HA⟩
end Go.Proofs.YtdhonbahpcmmnaaDoor.Line
end
section
set_option maxHeartbeats 400000
set_option linter.unusedVariables false
set_option linter.unusedSimpArgs false
namespace Go.Proofs.YtdhonbahpcmmnaaDoor.Line
open Go Go.RowKit Go.Proofs.YtdhonbahpcmmnaaDoor Go.Proofs.YtdhonbahpcmmnaaDoor.Eng Go.Proofs.YtdhonbahpcmmnaaDoorW.PrintWords
theorem word_in {w : L} (h : isWord w = true) : ∀ c ∈ w, inW c = true := by
 unfold isWord at h
 simp only [Bool.and_eq_true] at h
 exact List.all_eq_true.1 h.1.1
theorem word_len {w : L} (h : isWord w = true) : w.length ≤ 16 := by
 unfold isWord at h
 simp only [Bool.and_eq_true, decide_eq_true_eq] at h
 exact h.2
def tagsT (ts : List (L × L)) : L := (ts.map tagT).flatten
theorem tagsT_cons (t : L × L) (ts : List (L × L)) : tagsT (t :: ts) = 44 :: (t.1 ++ (61 :: (t.2 ++ tagsT ts))) := by
 simp [tagsT, tagT]
end Go.Proofs.YtdhonbahpcmmnaaDoor.Line
end
section
set_option maxHeartbeats 400000
set_option linter.unusedVariables false
set_option linter.unusedSimpArgs false
namespace Go.Proofs.YtdhonbahpcmmnaaDoor.Line
open Go Go.RowKit Go.Proofs.YtdhonbahpcmmnaaDoor Go.Proofs.YtdhonbahpcmmnaaDoor.Eng Go.Proofs.YtdhonbahpcmmnaaDoorW.PrintWords
theorem head_eq (e : Ev) : headT e = e.name ++ tagsT e.tags := rfl
theorem may_parts {e : Ev} (h : mayE e = true) : (∀ t ∈ e.tags, isWord t.1 = true ∧ isWord t.2 = true) ∧ isWord e.name = true ∧ e.tags.length ≤ 6 ∧ (1 ≤ e.kind ∧ e.kind ≤ 3) ∧ 0 ≤ e.time ∧ e.time ≤ 1099511627776 := by
 unfold mayE at h
 simp only [Bool.and_eq_true, decide_eq_true_eq] at h
 refine ⟨fun t ht => ?_, h.1.1.1.1.1.2, h.1.1.1.1.2, ⟨h.1.1.1.2, h.1.1.2⟩, h.1.2, h.2⟩
 have := List.all_eq_true.1 h.1.1.1.1.1.1 t ht
 simpa only [Bool.and_eq_true] using this
theorem letter_fwd {k : Int} (h : 1 ≤ k ∧ k ≤ 3) : ∃ c, letter k = [c] ∧ kindP c = k := by
 have : k = 1 ∨ k = 2 ∨ k = 3 := by omega
 rcases this with rfl | rfl | rfl
 ·
  exact ⟨99, rfl, rfl⟩
 ·
  exact ⟨103, rfl, rfl⟩
 ·
  exact ⟨104, rfl, rfl⟩
theorem tagsT_len {ts : List (L × L)} (h : ∀ t ∈ ts, isWord t.1 = true ∧ isWord t.2 = true) : (tagsT ts).length ≤ 34 * ts.length := by
 induction ts with
 | nil => simp [tagsT]
 | cons t ts ih =>
  have h1 := ih (fun u hu => h u (by simp [hu]))
  have h2 := word_len (h t (by simp)).1
  have h3 := word_len (h t (by simp)).2
  rw [tagsT_cons]
  simp only [List.length_cons, List.length_append]
  omega
theorem print_len {e : Ev} (hm : mayE e = true) (hv : -9223372036854775808 ≤ e.value ∧ e.value ≤ 9223372036854775807) : (printT e).length ≤ 300 := by
 obtain ⟨h1, h2, h3, h4, h5, h6⟩ := may_parts hm
 have a1 := tagsT_len h1
 have a2 := word_len h2
 have a3 := num_len e.value hv
 have a4 := num_len e.time (by omega)
 obtain ⟨c, hc, _⟩ := letter_fwd h4
 unfold printT
 rw [head_eq, hc]
 simp only [List.length_append, List.length_cons, List.length_nil]
 omega
end Go.Proofs.YtdhonbahpcmmnaaDoor.Line
end
section
set_option linter.unusedVariables false
namespace Go.Proofs.YtdhonbahpcmmnaaDoor.Eng
open Go Go.Proofs.YtdhonbahpcmmnaaDoor
section
variable {P : Program} {Q : Exit → Act → World → Prop} {N : Nat} {e e' : Env} {w : World} {x y : Code}
def inL (P : Program) (x : Code) (Q : Exit → Act → World → Prop) (a : Act) (w : World) : Prop :=
 ∀ (b : Frame) (k : List Item) (cs : List Frame), ∃ ex a' w', Q ex a' w' ∧ Arrives P (lone (b.at a (.code x :: .inLoop x :: k)) cs w) b k cs ex a' w'
def WL (P : Program) (N : Nat) (x : Code) (Q : Exit → Act → World → Prop) (e : Env) (w : World) : Prop := ∀ a, Rep N e a → inL P x Q a w
theorem WE.unroll (k : WL P N x Q e w) : WE P N (.loop x) Q e w := by
 intro a ha b k' cs
 obtain ⟨ex, a', w', hq, harr⟩ := k a ha b k' cs
 exact ⟨ex, a', w', hq, .of_steps (.one step_loop) harr⟩
theorem WL.go (k : WE P N x (Exit.then (inL P x Q) Q) e w) : WL P N x Q e w := by
 intro a ha b k' cs
 obtain ⟨ex, a₁, w₁, hq, harr⟩ := k a ha b (.inLoop x :: k') cs
 cases ex with
 | normal =>
  obtain ⟨e₂, a₂, w₂, hq₂, harr₂⟩ := hq b k' cs
  exact ⟨e₂, a₂, w₂, hq₂, .of_steps (Steps.trans harr (.one step_inLoop)) harr₂⟩
 | exit id => exact ⟨_, a₁, w₁, hq, .pass (x := .inLoop x) rfl (fun _ _ => .inl (by simp)) harr⟩
 | goto l => exact ⟨_, a₁, w₁, hq, .pass (x := .inLoop x) rfl (fun _ _ => .inl (by simp)) harr⟩
 | ret => exact ⟨_, a₁, w₁, hq, .pass (x := .inLoop x) rfl (fun _ _ => .inl (by simp)) harr⟩
 | panic ch => exact ⟨_, a₁, w₁, hq, .pass (x := .inLoop x) rfl (fun _ _ => .inl (by simp)) harr⟩
 | outgrown => exact ⟨_, a₁, w₁, hq, .pass (x := .inLoop x) rfl (fun _ _ => .inl (by simp)) harr⟩
theorem WQ.thenL (k : WL P N x Q e w) : WQ (Exit.then (inL P x Q) Q) N .normal e w := fun a ha => k a ha
theorem WE.seqJ {α : Type} (E : α → Env) (I : α → World → Prop) (k2 : ∀ z w', I z w' → WE P N y Q (E z) w')
  (k1 : WE P N x (Exit.then (fun a' w' => ∃ z, Rep N (E z) a' ∧ I z w') Q) e w) : WE P N (.seq x y) Q e w := by
 intro a ha
 refine wp_seq fun b k cs => ?_
 obtain ⟨ex, a', w', hq, harr⟩ := k1 a ha b k cs
 refine ⟨ex, a', w', ?_, harr⟩
 cases ex with
 | normal => obtain ⟨z, hR, hI⟩ := hq; exact k2 z w' hI a' hR
 | exit id => exact hq
 | goto l => exact hq
 | ret => exact hq
 | panic ch => exact hq
 | outgrown => exact hq
end
end Go.Proofs.YtdhonbahpcmmnaaDoor.Eng
end
section
set_option linter.unusedVariables false
set_option linter.unusedSimpArgs false
namespace Go.Proofs.YtdhonbahpcmmnaaDoor.Line
open Go Go.RowKit Go.Proofs.YtdhonbahpcmmnaaDoor Go.Proofs.YtdhonbahpcmmnaaDoor.Eng Go.Proofs.YtdhonbahpcmmnaaDoorW.PrintWords
theorem et_t : ET Tryd.prog 23 53 2 32 := by
 obtain ⟨i, h1, h2, h3, h4⟩ := info_parts (P := Tryd.prog) (e := 53) (z := .agg #[.string ⟨#[]⟩, .string ⟨#[]⟩]) (size := 2) (bytes := 32) (by kernel_rfl)
 exact ⟨by kernel_rfl, ⟨i, _, h1, h2, h3, h4, rfl⟩, by decide⟩
theorem own_cap {w : World} {T : TypeId} {size : Nat} {F : List Nat} {A : Option Addr} {n cap : Nat} {xs : List (List Value)} (h : OwnX T size w F (.slice A n cap) xs) (hn : xs.length = n) : n ≤ cap := by
 rcases h with ⟨_, hv, _⟩ | ⟨b, c, _, hv, hr⟩
 ·
  injection hv with _ h1 h2
  omega
 ·
  injection hv with _ h1 h2
  have := hr.le
  omega
def ResR (w w' : World) (e : Ending) : Sum Ev Nat → Prop
 | .inr p => e = .returned (.tuple #[.agg #[.string (⟨#[]⟩), .slice none 0 0, .int .i64 0, .int .i64 0, .int .i64 0], .int .i64 (p : Int)]) ∧ Fr [] w w'
 | .inl ev => ∃ A n cp F, e = .returned (.tuple #[.agg #[.string (str ev.name), .slice A n cp, .int .i64 ev.kind, .int .i64 ev.value, .int .i64 ev.time], .int .i64 (-1)]) ∧ VX cT 2 w' F A ev.tags ∧ ev.tags.length = n ∧ n ≤ cp ∧ (∀ y ∈ F, w.heap.size ≤ y) ∧ Fr [] w w'
theorem ResR.ok {w w' : World} {ev : Ev} {A : Option Addr} {n cp : Nat} {F : List Nat} (hn : ev.tags.length = n) (hc : n ≤ cp) (hT : VX cT 2 w' F A ev.tags) (hg : ∀ y ∈ F, w.heap.size ≤ y) (h : Fr [] w w') : ResR w w' (.returned (.tuple #[.agg #[.string (str ev.name), .slice A n cp, .int .i64 ev.kind, .int .i64 ev.value, .int .i64 ev.time], .int .i64 (-1)])) (.inl ev) := ⟨A, n, cp, F, rfl, hT, hn, hc, hg, h⟩
end Go.Proofs.YtdhonbahpcmmnaaDoor.Line
end
section
set_option linter.unusedVariables false
set_option linter.unusedSimpArgs false
namespace Go.Proofs.YtdhonbahpcmmnaaDoor.Line
open Go Go.RowKit Go.Proofs.YtdhonbahpcmmnaaDoor Go.Proofs.YtdhonbahpcmmnaaDoor.Eng Go.Proofs.YtdhonbahpcmmnaaDoorW.PrintWords
def ResL (w w' : World) (e : Ending) : Sum Ev Nat → Prop
 | .inr p => ∃ g, e = .returned (.tuple #[.agg #[.string (⟨#[]⟩), .slice none 0 0, .int .i64 0, .int .i64 0, .int .i64 0], .iface 67 (.pointer (some ⟨g, 0, none⟩))]) ∧ Blk w' g #[.int .i64 (p : Int), .int .i64 2] 69 ∧ w.heap.size ≤ g ∧ Fr [] w w'
 | .inl ev => ∃ A n cp F, e = .returned (.tuple #[.agg #[.string (str ev.name), .slice A n cp, .int .i64 ev.kind, .int .i64 ev.value, .int .i64 ev.time], .nilIface]) ∧ VX cT 2 w' F A ev.tags ∧ ev.tags.length = n ∧ n ≤ cp ∧ (∀ y ∈ F, w.heap.size ≤ y) ∧ Fr [] w w'
theorem ResL.ok {w w' : World} {ev : Ev} {A : Option Addr} {n cp : Nat} {F : List Nat} (hn : ev.tags.length = n) (hc : n ≤ cp) (hT : VX cT 2 w' F A ev.tags) (hg : ∀ y ∈ F, w.heap.size ≤ y) (h : Fr [] w w') : ResL w w' (.returned (.tuple #[.agg #[.string (str ev.name), .slice A n cp, .int .i64 ev.kind, .int .i64 ev.value, .int .i64 ev.time], .nilIface])) (.inl ev) := ⟨A, n, cp, F, rfl, hT, hn, hc, hg, h⟩
end Go.Proofs.YtdhonbahpcmmnaaDoor.Line
end
section
set_option linter.unusedVariables false
set_option linter.unusedSimpArgs false
namespace Go.Proofs.YtdhonbahpcmmnaaDoor.Build
open Go Go.RowKit Go.Proofs Go.Proofs.YtdhonbahpcmmnaaDoor Go.Proofs.YtdhonbahpcmmnaaDoor.Eng Go.Proofs.YtdhonbahpcmmnaaDoorW.PrintWords
theorem byt : BT Tryd.prog 77 5 9 := ⟨by kernel_rfl, by kernel_rfl, by kernel_rfl⟩
theorem et_b : ET Tryd.prog 77 5 1 1 := by
 obtain ⟨i, h1, h2, h3, h4⟩ := info_parts (P := Tryd.prog) (e := 5) (z := .int .u8 0) (size := 1) (bytes := 1) (by kernel_rfl)
 exact ⟨by kernel_rfl, ⟨i, _, h1, h2, h3, h4, rfl⟩, by decide⟩
theorem hz_b : ∃ i, Tryd.prog.info? 5 = some i ∧ i.zero = some (.int .u8 0) := by
 obtain ⟨i, h1, h2, h3, h4⟩ := info_parts (P := Tryd.prog) (e := 5) (z := .int .u8 0) (size := 1) (bytes := 1) (by kernel_rfl)
 exact ⟨i, h1, h2⟩
set_option maxHeartbeats 1000000 in
set_option maxRecDepth 100000 in
theorem cc_used (b : Nat) (w : World) (h0 : w.cell? ⟨b, 0, none⟩ = some (.pointer (some ⟨b, 0, none⟩))) :
  Calls Tryd.prog 65 #[.pointer (some ⟨b, 0, none⟩)] w fun e w' => e = .returned (.tuple #[]) ∧ w' = w := by
 obtain ⟨j, hj, _⟩ := Option.map_eq_some_iff.1 (show (Tryd.prog.info? 79).map (·.size) = some 2 by kernel_rfl)
 go_enter Tryd.func65, Tryd.ntmps65
 go_wp2
 rw [Lib.run_neq_ptr_same w _ Tryd.underlying76 hj]
 go_wp2
 go_end0
 exact ⟨rfl, rfl⟩
set_option maxHeartbeats 1000000 in
set_option maxRecDepth 100000 in
theorem cc_fresh (b : Nat) (w : World) (h0 : w.cell? ⟨b, 0, none⟩ = some (.pointer none)) (hsh : w.shape? b = some (79, 2)) (hfz : w.frozen? ⟨b, 0, none⟩ = false) :
  Calls Tryd.prog 65 #[.pointer (some ⟨b, 0, none⟩)] w fun e w' => e = .returned (.tuple #[]) ∧ w' = w.setCell ⟨b, 0, none⟩ (.pointer (some ⟨b, 0, none⟩)) := by
 obtain ⟨j, hj, hjs⟩ := Option.map_eq_some_iff.1 (show (Tryd.prog.info? 79).map (·.size) = some 2 by kernel_rfl)
 go_enter Tryd.func65, Tryd.ntmps65
 go_wp2
 rw [Lib.run_to_unsafe w ⟨b, 0, none⟩ Tryd.underlying76 Tryd.underlying90 hj (by rw [hjs]; decide) hsh (Nat.zero_lt_succ 1)]
 simp only [Result.andThen]
 rw [Oper.upon_value]
 go_wp2
 rw [run_callFunc_extern Tryd.func81 (by kernel_rfl) (by kernel_rfl) (by kernel_rfl) (e := Extern.AbiNoEscape.same) (by kernel_rfl)]
 rw [Lib.run_noEscape]
 simp only [Result.andThen]
 rw [Oper.upon_value]
 go_wp2
 rw [Lib.run_from_unsafe w ⟨b, 0, none⟩ Tryd.underlying90 Tryd.underlying76 hj hsh (by kernel_rfl)]
 simp only [Result.andThen]
 rw [Oper.upon_value]
 go_wp2
 go_end0
 exact ⟨rfl, rfl⟩
theorem copyCheck_f (g : Nat) (pa v : Value) (w : World) (HB : Blk w g #[pa, v] 79) (hpa : pa = .pointer none ∨ pa = .pointer (some ⟨g, 0, none⟩)) :
  Calls Tryd.prog 65 #[.pointer (some ⟨g, 0, none⟩)] w fun e w' => e = .returned (.tuple #[]) ∧ Blk w' g #[.pointer (some ⟨g, 0, none⟩), v] 79 ∧ Fr [g] w w' := by
 rcases hpa with rfl | rfl
 ·
  refine (cc_fresh g w (HB.cell 0) (by unfold World.shape?; rw [show w.heap[g]? = _ from HB]; rfl) (HB.frozen 0)).mono fun e w' h => ?_
  obtain ⟨rfl, rfl⟩ := h
  exact ⟨rfl, HB.put 0 _ rfl, (Fr.refl [g] w).set (.inl (by simp)) 0 _⟩
 ·
  refine (cc_used g w (HB.cell 0)).mono fun e w' h => ?_
  obtain ⟨rfl, rfl⟩ := h
  exact ⟨rfl, HB, Fr.refl [g] _⟩
set_option maxRecDepth 100000 in
set_option maxHeartbeats 400000 in
theorem writeString_f (g : Nat) (pa : Value) (A : Option Addr) (cap : Nat) (q s : List UInt8) (F : List Nat) (w : World) (HB : Blk w g #[pa, .slice A q.length cap] 79) (hpa : pa = .pointer none ∨ pa = .pointer (some ⟨g, 0, none⟩)) (HO : OwnX 5 1 w F (.slice A q.length cap) (q.map cB)) (hgF : g ∉ F) (hl : q.length + s.length ≤ 1000000000) :
  Calls Tryd.prog 45 #[.pointer (some ⟨g, 0, none⟩), .string (str s)] w fun e w' => ∃ A' cap' F', e = .returned (.tuple #[.int .i64 (s.length : Int), .nilIface]) ∧ Blk w' g #[.pointer (some ⟨g, 0, none⟩), .slice A' (q ++ s).length cap'] 79 ∧ OwnX 5 1 w' F' (.slice A' (q ++ s).length cap') ((q ++ s).map cB) ∧ Fr (g :: F) w w' ∧ (∀ y ∈ F', y ∈ F ∨ w.heap.size ≤ y) ∧ g ∉ F' := by
 have HA := Fr.refl (g :: F) w
 refine enter (N := 19) Tryd.func45 (c := _) rfl (by kernel_rfl) (by kernel_rfl) (e := [(0, .pointer (some ⟨g, 0, none⟩)), (1, .string (str s))]) (by kernel_rfl) ?_
 refine WE.seq ?_
 refine WE.region ?_
 refine WO.run 2 0 [(5, .nilIface), (4, .int .i64 0)] (by kernel_rfl) (by kernel_rfl) ?_
 refine WO.done (by kernel_rfl) ?_
 refine WQ.keep [0, 1, 4, 5] (e' := [(0, .pointer (some ⟨g, 0, none⟩)), (1, .string (str s)), (4, .int .i64 0), (5, .nilIface)]) (by kernel_rfl) ?_
 refine WQ.thenN ?_
 refine WE.seq ?_
 refine WE.region ?_
 refine WO.run 1 0 [(6, .pointer (some ⟨g, 0, none⟩))] (by kernel_rfl) (by kernel_rfl) ?_
 refine WO.call (SQ.E 1 (by kernel_rfl)) 7 (by kernel_rfl) (copyCheck_f g _ _ _ HB hpa) ?_
 rintro _ w1 ⟨rfl, HB3, F2⟩
 refine ⟨_, rfl, trivial, ?_⟩
 have HO := HO.keep F2 (djB hgF)
 have HA := Fr.step HA F2 (inSL (by simp) inS0)
 refine WO.done (by kernel_rfl) ?_
 refine WQ.keep [0, 1, 4, 5] (e' := [(0, .pointer (some ⟨g, 0, none⟩)), (1, .string (str s)), (4, .int .i64 0), (5, .nilIface)]) (by kernel_rfl) ?_
 refine WQ.thenN ?_
 refine WE.seq ?_
 refine WE.region ?_
 refine WO.run 4 0 [(11, .pointer (some ⟨g, 1, none⟩)), (10, .pointer (some ⟨g, 0, none⟩)), (9, .pointer (some ⟨g, 0, none⟩)), (8, .pointer (some ⟨g, 0, none⟩))] (by kernel_rfl) (by kernel_rfl) ?_
 refine WO.ld (SQ.S 4 (by kernel_rfl)) 12 (.slice A q.length cap) (by kernel_rfl) (same (HB3.at 1 (by kernel_rfl))) ?_
 refine WO.run 1 5 [(13, .string (str s))] (by kernel_rfl) (by kernel_rfl) ?_
 refine WO.appS (SQ.E 6 (by kernel_rfl)) 14 (s := (str s)) (q := q) byt et_b hz_b HO (by kernel_rfl) (by simp only [str_size, List.length_append] at *; omega) (fun _ _ => trivial) ?_
 intro v4 w5 G6 HO7 F8 hg9
 have hgF_ := fun y hy => (hg9 y hy).imp id (Nat.le_trans HA.size)
 have nin_g_G6 : g ∉ G6 := grow_nin hg9 hgF HB3.lt
 have inF_HA_G6 : ∀ y ∈ G6, y ∈ g :: F ∨ (World.heap w).size ≤ y := grow_in hg9 (fun y hy => .inl (List.mem_cons_of_mem _ hy)) HA.size
 have HB3 := Blk.keep HB3 F8 hgF
 have HA := Fr.step HA F8 (fun y hy => .inl (List.mem_cons_of_mem _ hy))
 obtain ⟨A10, cap11, rfl⟩ := HO7.sliceN (List.length_map _)
 refine WO.run 2 7 [(16, .pointer (some ⟨g, 1, none⟩)), (15, .pointer (some ⟨g, 0, none⟩))] (by kernel_rfl) (by kernel_rfl) ?_
 refine WO.st (SQ.E 9 (by kernel_rfl)) g 1 [.slice A10 ((q ++ s).length) cap11] #[.pointer (some ⟨g, 0, none⟩), .slice A10 ((q ++ s).length) cap11] (by kernel_rfl) HB3 (by kernel_rfl) (by kernel_rfl) (fun _ _ => trivial) ?_
 intro w12 HB14 F13 _
 have HO7 := HO7.keep F13 (djB nin_g_G6)
 have HA := Fr.step HA F13 (inSL (by simp) inS0)
 refine WO.done (by kernel_rfl) ?_
 refine WQ.keep [0, 1, 4, 5] (e' := [(0, .pointer (some ⟨g, 0, none⟩)), (1, .string (str s)), (4, .int .i64 0), (5, .nilIface)]) (by kernel_rfl) ?_
 refine WQ.thenN ?_
 refine WE.seq ?_
 refine WE.region ?_
 refine WO.run 4 0 [(5, .nilIface), (4, .int .i64 (s.length : Int)), (18, .int .i64 (s.length : Int)), (17, .string (str s))] (by kernel_rfl) (by kernel_rfl) ?_
 refine WO.done (by kernel_rfl) ?_
 refine WQ.keep [0, 1, 4, 5] (e' := [(0, .pointer (some ⟨g, 0, none⟩)), (1, .string (str s)), (4, .int .i64 (s.length : Int)), (5, .nilIface)]) (by kernel_rfl) ?_
 refine WQ.thenN ?_
 refine WE.ret ?_
 refine WQ.ret (v := .tuple #[.int .i64 (s.length : Int), .nilIface]) (by kernel_rfl) ?_
 exact ⟨A10, cap11, G6, rfl, HB14, HO7, HA, hgF_, nin_g_G6⟩
theorem string_f (g : Nat) (A : Option Addr) (cap : Nat) (q : List UInt8) (F : List Nat) (B0 : Nat) (pa : Value) (w : World) (HB : Blk w g #[pa, .slice A q.length cap] 79) (hpa : pa = .pointer none ∨ pa = .pointer (some ⟨g, 0, none⟩)) (HO : OwnX 5 1 w F (.slice A q.length cap) (q.map cB)) (hgF : g ∉ F) (hB : B0 ≤ w.heap.size) (hg : B0 ≤ g) (hF : ∀ y ∈ F, B0 ≤ y) :
  Calls Tryd.prog 47 #[.pointer (some ⟨g, 0, none⟩)] w fun e w' => e = .returned (.string (str q)) ∧ Below B0 w w' := by
 have hb : Lib.IsBuilder 79 5 B0 g (Lib.byteCells q) w := by
  have hlen : (Lib.byteCells q).length = q.length := by simp [Lib.byteCells]
  have hcs : (q.map cB).flatten = Lib.byteCells q := by
   rw [cB_flat]
   rfl
  have hat : Lib.BuilderAt 79 5 B0 g pa (Lib.byteCells q) w := by
   refine ⟨hg, _, HB, ?_, ?_⟩
   ·
    rw [hlen]
    rcases HO with ⟨_, hv, hq⟩ | ⟨b, cap', hFb, hv, hrow⟩
    ·
     have hq0 : q = [] := List.map_eq_nil_iff.1 hq
     rw [hv, hq0]
     exact ⟨rfl, .inl ⟨rfl, rfl⟩⟩
    ·
     obtain ⟨cur, h2, h3, h4⟩ := hrow.cur
     rw [List.length_map] at hv h4
     rw [hv]
     rw [hcs] at h4
     have hle := hrow.le
     rw [List.length_map] at hle
     exact ⟨by rw [hlen]; omega, .inr ⟨b, cap', cur, rfl, hF b (by rw [hFb]; simp), h2, hle, hrow.cap, h3, h4⟩⟩
   ·
    rcases HO with ⟨_, hv, hq⟩ | ⟨b, cap', hFb, hv, hrow⟩
    ·
     rw [hv]
     simp [Value.ownBlock]
    ·
     rw [hv]
     simp only [Value.ownBlock, ne_eq, Option.some.injEq]
     intro h
     exact hgF (by rw [hFb, h]; simp)
  rcases hpa with rfl | rfl
  ·
   exact .inl hat
  ·
   exact .inr hat
 exact Tryd.Builder_String_any B0 g q w hb hB
end Go.Proofs.YtdhonbahpcmmnaaDoor.Build
end
