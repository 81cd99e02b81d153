/-
 DERIVED: THE SHELF's CONTRACTS AT THIS DUMP, IN PLAIN WORDS (tools/lay-plain.mjs out of 'TrydShelf.lean', which tools/lay-shelf.mjs wrote): THE SAME DECLARATIONS UNDER THE SAME NAMES: 'import', 'namespace', 'open', 'def', 'theorem' AND NOTHING ELSE: no command of the shelf's: FOR A HAND-IN. Each laying: the table of numbers ('.._ren') and one theorem, a field a fact of the dump's own or the kernel's comparison; each contract: ONE APPLICATION.
-/
import Derived.Shelf.Strings.Builder1
import Derived.Shelf.Small.Bits
import Derived.Shelf.Strings.BuilderF
import Derived.Shelf.Strings.BuilderK
import Derived.Shelf.Strconv.Itoa0
import Derived.Shelf.Strconv.Itoa1
import Derived.Shelf.LaysM
import Derived.Shelf.Strconv.Itoa2
import Derived.Shelf.Strconv.Itoa3
import Derived.Shelf.Strconv.Itoa4
import Derived.Shelf.Strconv.ParseIntEmpty
import Derived.Shelf.Strconv.Clone
import Derived.Shelf.Strconv.SyntaxError
import Derived.Shelf.LaysC
import Derived.Shelf.Strconv.ToError
import Derived.Shelf.Strconv.Lower
import Derived.Shelf.Strconv.ParseUint10
import Derived.Shelf.Strconv.ParseUint10Empty
import Derived.Shelf.Strconv.ParseUint10Any
import Derived.Shelf.Strconv.ParseInt10
import Derived.Shelf.Strconv.RangeError
import Derived.Shelf.Strconv.ToErrorRange
import Derived.Shelf.Strconv.ParseUintEmpty
import Derived.Shelf.Strconv.ParseUint10b64
import Derived.Shelf.Strconv.ParseUint10b32
import Derived.Shelf.Strconv.ParseUint10b16
import Derived.Shelf.Strconv.ParseUint10b8
import Derived.Shelf.Strconv.ParseUint10At
import Derived.Shelf.Strconv.ParseInt10At64
import Derived.Shelf.Strconv.ParseInt10At32
import Derived.Shelf.Strconv.ParseInt10At16
import Derived.Shelf.Strconv.ParseInt10At8
import Derived.Shelf.Strconv.ParseInt10All
import Derived.Shelf.Strconv.ParseIntPublic10
import Derived.Shelf.Strconv.ErrVarParseInt
import Derived.Shelf.Strings.Search1
import Derived.Shelf.Strings.Search2
import Derived.Shelf.Strings.Search3
import Derived.Shelf.Strings.Cut
import Derived.Shelf.Strings.Shaped
import Derived.Shelf.Strings.Prefix
import Derived.Shelf.Strings.BuilderCap
import Derived.Test.YtdhonbahpcmmnaaDoorProg
namespace Go.Proofs
open Go.Shelf
def Tryd.lays169_ren : Go.Shelf.Ren := ⟨fun | 169 => 47 | n => n, fun | 70 => 76 | 9 => 9 | 0 => 0 | 72 => 79 | 37 => 77 | 127 => 104 | 3 => 3 | 5 => 5 | n => n, fun | n => n⟩
theorem Tryd.lays169 : Go.Proofs.Lays.n169 Tryd.prog Tryd.lays169_ren := {
 mixed := by kernel_rfl
 f169 := Tryd.func47.trans (congrArg some (by kernel_rfl))
 t0 := Tryd.underlying0
 a0 := Tryd.isAgg0
 z0 := Tryd.sizeOf0
 v0 := Tryd.zeroValue0
 t3 := Tryd.underlying3
 a3 := Tryd.isAgg3
 z3 := Tryd.sizeOf3
 v3 := Tryd.zeroValue3
 t9 := Tryd.underlying9
 a9 := Tryd.isAgg9
 z9 := Tryd.sizeOf9
 v9 := Tryd.zeroValue9
 t37 := Tryd.underlying77
 a37 := Tryd.isAgg77
 z37 := Tryd.sizeOf77
 v37 := Tryd.zeroValue77
 t70 := Tryd.underlying76
 a70 := Tryd.isAgg76
 z70 := Tryd.sizeOf76
 v70 := Tryd.zeroValue76
 t72 := Tryd.underlying79
 a72 := Tryd.isAgg79
 z72 := Tryd.sizeOf79
 v72 := Tryd.zeroValue79
 t127 := Tryd.underlying104
 a127 := Tryd.isAgg104
 z127 := Tryd.sizeOf104
 v127 := Tryd.zeroValue104 }
theorem Tryd.Builder_Extra_169 : Builder.Extra Tryd.prog Tryd.lays169_ren := {
 sizeBuilder := by kernel_rfl
 liesBuilder := by kernel_rfl
 t5 := Tryd.underlying5
 a5 := Tryd.isAgg5
 z5 := Tryd.sizeOf5
 v5 := Tryd.zeroValue5
 infoByte := by kernel_rfl
 cellsByte := by kernel_rfl
 sizeByte := by kernel_rfl
 neB5 := by decide }
open Go.RowKit in
theorem Tryd.Builder_String_any (B b : Nat) (l : List UInt8) (w : World) (h : Lib.IsBuilder 79 5 B b (Lib.byteCells l) w) (hBw : B ≤ w.heap.size) :
  Calls Tryd.prog 47 #[.pointer (some ⟨b, 0, none⟩)] w fun e w' => e = .returned (.string ⟨l.toArray⟩) ∧ Below B w w' := Any.Builder_String_any Tryd.lays169 Tryd.Builder_Extra_169 B b l w h hBw
def Tryd.lays125_ren : Go.Shelf.Ren := ⟨fun | 125 => 87 | 128 => 109 | 129 => 97 | n => n, fun | 46 => 111 | 3 => 3 | 51 => 138 | 53 => 89 | 4 => 4 | 5 => 5 | 9 => 9 | n => n, fun | n => n⟩
theorem Tryd.lays125 : Go.Proofs.Lays.n125 Tryd.prog Tryd.lays125_ren := {
 mixed := by kernel_rfl
 f125 := Tryd.func87.trans (congrArg some (by kernel_rfl))
 f128 := Tryd.func109.trans (congrArg some (by kernel_rfl))
 f129 := Tryd.func97.trans (congrArg some (by kernel_rfl))
 t3 := Tryd.underlying3
 a3 := Tryd.isAgg3
 z3 := Tryd.sizeOf3
 v3 := Tryd.zeroValue3
 t4 := Tryd.underlying4
 a4 := Tryd.isAgg4
 z4 := Tryd.sizeOf4
 v4 := Tryd.zeroValue4
 t5 := Tryd.underlying5
 a5 := Tryd.isAgg5
 z5 := Tryd.sizeOf5
 v5 := Tryd.zeroValue5
 t9 := Tryd.underlying9
 a9 := Tryd.isAgg9
 z9 := Tryd.sizeOf9
 v9 := Tryd.zeroValue9
 t46 := Tryd.underlying111
 a46 := Tryd.isAgg111
 z46 := Tryd.sizeOf111
 v46 := Tryd.zeroValue111
 t51 := Tryd.underlying138
 a51 := Tryd.isAgg138
 z51 := Tryd.sizeOf138
 v51 := Tryd.zeroValue138
 t53 := Tryd.underlying89
 a53 := Tryd.isAgg89
 z53 := Tryd.sizeOf89
 v53 := Tryd.zeroValue89 }
theorem Tryd.bits_Len (x : Int) (w : World) (h0 : 0 ≤ x) (h1 : x ≤ 18446744073709551615) :
  Calls Tryd.prog 87 #[.int .u64 x] w fun e w' => e = .returned (.int .i64 (Lib.bitLen x.toNat)) ∧ w' = w := Any.bits_Len Tryd.lays125 x w h0 h1
def Tryd.laysM173_ren : Go.Shelf.Ren := ⟨fun | 173 => 46 | 246 => 66 | 283 => 82 | 284 => 83 | 285 => 84 | 286 => 85 | 129 => 97 | 317 => 96 | 318 => 98 | 319 => 99 | 320 => 100 | 337 => 115 | 338 => 116 | n => n, fun | 2 => 2 | 3 => 3 | 9 => 9 | 4 => 4 | 171 => 131 | 0 => 0 | 53 => 89 | 37 => 77 | 5 => 5 | 173 => 134 | 212 => 148 | 51 => 138 | 20 => 20 | 213 => 149 | 46 => 111 | 232 => 174 | 233 => 175 | n => n, fun | 17 => 2 | 18 => 5 | 19 => 6 | n => n⟩
theorem Tryd.laysM173 : Go.Proofs.LaysM.n173 Tryd.prog Tryd.laysM173_ren := {
 mixed := by kernel_rfl
 f129 := Tryd.func97.trans (congrArg some (by kernel_rfl))
 f173 := Tryd.func46.trans (congrArg some (by kernel_rfl))
 f246 := Tryd.func66.trans (congrArg some (by kernel_rfl))
 f283 := Tryd.func82.trans (congrArg some (by kernel_rfl))
 f284 := Tryd.func83.trans (congrArg some (by kernel_rfl))
 f285 := Tryd.func84.trans (congrArg some (by kernel_rfl))
 f286 := Tryd.func85.trans (congrArg some (by kernel_rfl))
 f317 := Tryd.func96.trans (congrArg some (by kernel_rfl))
 f318 := Tryd.func98.trans (congrArg some (by kernel_rfl))
 f319 := Tryd.func99.trans (congrArg some (by kernel_rfl))
 f320 := Tryd.func100.trans (congrArg some (by kernel_rfl))
 f337 := Tryd.func115.trans (congrArg some (by kernel_rfl))
 f338 := Tryd.func116.trans (congrArg some (by kernel_rfl))
 t0 := Tryd.underlying0
 a0 := Tryd.isAgg0
 z0 := Tryd.sizeOf0
 v0 := Tryd.zeroValue0
 t2 := Tryd.underlying2
 a2 := Tryd.isAgg2
 z2 := Tryd.sizeOf2
 v2 := Tryd.zeroValue2
 t3 := Tryd.underlying3
 a3 := Tryd.isAgg3
 z3 := Tryd.sizeOf3
 v3 := Tryd.zeroValue3
 t4 := Tryd.underlying4
 a4 := Tryd.isAgg4
 z4 := Tryd.sizeOf4
 v4 := Tryd.zeroValue4
 t5 := Tryd.underlying5
 a5 := Tryd.isAgg5
 z5 := Tryd.sizeOf5
 v5 := Tryd.zeroValue5
 t9 := Tryd.underlying9
 a9 := Tryd.isAgg9
 z9 := Tryd.sizeOf9
 v9 := Tryd.zeroValue9
 t20 := Tryd.underlying20
 a20 := Tryd.isAgg20
 z20 := Tryd.sizeOf20
 v20 := Tryd.zeroValue20
 t37 := Tryd.underlying77
 a37 := Tryd.isAgg77
 z37 := Tryd.sizeOf77
 v37 := Tryd.zeroValue77
 t46 := Tryd.underlying111
 a46 := Tryd.isAgg111
 z46 := Tryd.sizeOf111
 v46 := Tryd.zeroValue111
 t51 := Tryd.underlying138
 a51 := Tryd.isAgg138
 z51 := Tryd.sizeOf138
 v51 := Tryd.zeroValue138
 t53 := Tryd.underlying89
 a53 := Tryd.isAgg89
 z53 := Tryd.sizeOf89
 v53 := Tryd.zeroValue89
 t171 := Tryd.underlying131
 a171 := Tryd.isAgg131
 z171 := Tryd.sizeOf131
 v171 := Tryd.zeroValue131
 t173 := Tryd.underlying134
 a173 := Tryd.isAgg134
 z173 := Tryd.sizeOf134
 v173 := Tryd.zeroValue134
 t212 := Tryd.underlying148
 a212 := Tryd.isAgg148
 z212 := Tryd.sizeOf148
 v212 := Tryd.zeroValue148
 t213 := Tryd.underlying149
 a213 := Tryd.isAgg149
 z213 := Tryd.sizeOf149
 t232 := Tryd.underlying174
 a232 := Tryd.isAgg174
 z232 := Tryd.sizeOf174
 v232 := Tryd.zeroValue174
 t233 := Tryd.underlying175
 a233 := Tryd.isAgg175
 z233 := Tryd.sizeOf175
 v233 := Tryd.zeroValue175
 g17 := by kernel_rfl
 g18 := by kernel_rfl
 g19 := by kernel_rfl
 i0 := by kernel_rfl
 i2 := by kernel_rfl
 i3 := by kernel_rfl
 i4 := by kernel_rfl
 i5 := by kernel_rfl
 i9 := by kernel_rfl
 i20 := by kernel_rfl
 i37 := by kernel_rfl
 i46 := by kernel_rfl
 i51 := by kernel_rfl
 i53 := by kernel_rfl
 i171 := by kernel_rfl
 i173 := by kernel_rfl
 i212 := by kernel_rfl
 i232 := by kernel_rfl
 i233 := by kernel_rfl
 m17 := by kernel_rfl
 m18 := by kernel_rfl
 m19 := by kernel_rfl }
open Go.RowKit Go.Sort Go.Lib in
theorem Tryd.strconv_FormatInt_10 (n : Int) (h0 : -9223372036854775808 ≤ n) (h1 : n ≤ 9223372036854775807) (w : World) (htab : Lib.TabIs Tryd.prog w "internal/strconv.uint64pow10" .u64 Lib.pow10Tab) :
  Calls Tryd.prog 46 #[.int .i64 n, .int .i64 10] w fun e w' => e = .returned (.string ⟨(Lib.itoa n).toArray⟩) ∧ ∃ k os, w' = grow (w.drewN k) os := Any.strconv_FormatInt_10 Tryd.laysM173 n h0 h1 w htab
def Tryd.laysC174_ren : Go.Shelf.Ren := ⟨fun | 174 => 57 | 247 => 77 | 245 => 78 | 287 => 91 | 279 => 92 | 280 => 93 | 281 => 94 | 282 => 95 | 321 => 110 | 322 => 111 | 316 => 112 | 171 => 114 | 205 => 113 | 243 => 122 | 246 => 66 | 283 => 82 | 284 => 83 | 285 => 84 | 286 => 85 | 129 => 97 | 317 => 96 | 318 => 98 | 319 => 99 | 320 => 100 | 337 => 115 | 338 => 116 | n => n, fun | 9 => 9 | 3 => 3 | 2 => 2 | 75 => 30 | 85 => 87 | 4 => 4 | 167 => 141 | 5 => 5 | 53 => 89 | 175 => 142 | 46 => 111 | 168 => 144 | 37 => 77 | 0 => 0 | 210 => 163 | 21 => 21 | 127 => 104 | 145 => 173 | 143 => 171 | 171 => 131 | 173 => 134 | 212 => 148 | 51 => 138 | 20 => 20 | 213 => 149 | 232 => 174 | 233 => 175 | 80 => 61 | n => n, fun | 15 => 3 | 16 => 4 | 17 => 2 | 18 => 5 | 19 => 6 | n => n⟩
theorem Tryd.laysC174 : Go.Proofs.LaysC.n174 Tryd.prog Tryd.laysC174_ren := {
 mixed := by kernel_rfl
 f129 := Tryd.func97.trans (congrArg some (by kernel_rfl))
 f171 := Tryd.func114.trans (congrArg some (by kernel_rfl))
 f174 := Tryd.func57.trans (congrArg some (by kernel_rfl))
 f205 := Tryd.func113.trans (congrArg some (by kernel_rfl))
 f243 := Tryd.func122.trans (congrArg some (by kernel_rfl))
 f245 := Tryd.func78.trans (congrArg some (by kernel_rfl))
 f246 := Tryd.func66.trans (congrArg some (by kernel_rfl))
 f247 := Tryd.func77.trans (congrArg some (by kernel_rfl))
 f279 := Tryd.func92.trans (congrArg some (by kernel_rfl))
 f280 := Tryd.func93.trans (congrArg some (by kernel_rfl))
 f281 := Tryd.func94.trans (congrArg some (by kernel_rfl))
 f282 := Tryd.func95.trans (congrArg some (by kernel_rfl))
 f283 := Tryd.func82.trans (congrArg some (by kernel_rfl))
 f284 := Tryd.func83.trans (congrArg some (by kernel_rfl))
 f285 := Tryd.func84.trans (congrArg some (by kernel_rfl))
 f286 := Tryd.func85.trans (congrArg some (by kernel_rfl))
 f287 := Tryd.func91.trans (congrArg some (by kernel_rfl))
 f316 := Tryd.func112.trans (congrArg some (by kernel_rfl))
 f317 := Tryd.func96.trans (congrArg some (by kernel_rfl))
 f318 := Tryd.func98.trans (congrArg some (by kernel_rfl))
 f319 := Tryd.func99.trans (congrArg some (by kernel_rfl))
 f320 := Tryd.func100.trans (congrArg some (by kernel_rfl))
 f321 := Tryd.func110.trans (congrArg some (by kernel_rfl))
 f322 := Tryd.func111.trans (congrArg some (by kernel_rfl))
 f337 := Tryd.func115.trans (congrArg some (by kernel_rfl))
 f338 := Tryd.func116.trans (congrArg some (by kernel_rfl))
 t0 := Tryd.underlying0
 a0 := Tryd.isAgg0
 z0 := Tryd.sizeOf0
 v0 := Tryd.zeroValue0
 t2 := Tryd.underlying2
 a2 := Tryd.isAgg2
 z2 := Tryd.sizeOf2
 v2 := Tryd.zeroValue2
 t3 := Tryd.underlying3
 a3 := Tryd.isAgg3
 z3 := Tryd.sizeOf3
 v3 := Tryd.zeroValue3
 t4 := Tryd.underlying4
 a4 := Tryd.isAgg4
 z4 := Tryd.sizeOf4
 v4 := Tryd.zeroValue4
 t5 := Tryd.underlying5
 a5 := Tryd.isAgg5
 z5 := Tryd.sizeOf5
 v5 := Tryd.zeroValue5
 t9 := Tryd.underlying9
 a9 := Tryd.isAgg9
 z9 := Tryd.sizeOf9
 v9 := Tryd.zeroValue9
 t20 := Tryd.underlying20
 a20 := Tryd.isAgg20
 z20 := Tryd.sizeOf20
 v20 := Tryd.zeroValue20
 t21 := Tryd.underlying21
 a21 := Tryd.isAgg21
 z21 := Tryd.sizeOf21
 v21 := Tryd.zeroValue21
 t37 := Tryd.underlying77
 a37 := Tryd.isAgg77
 z37 := Tryd.sizeOf77
 v37 := Tryd.zeroValue77
 t46 := Tryd.underlying111
 a46 := Tryd.isAgg111
 z46 := Tryd.sizeOf111
 v46 := Tryd.zeroValue111
 t51 := Tryd.underlying138
 a51 := Tryd.isAgg138
 z51 := Tryd.sizeOf138
 v51 := Tryd.zeroValue138
 t53 := Tryd.underlying89
 a53 := Tryd.isAgg89
 z53 := Tryd.sizeOf89
 v53 := Tryd.zeroValue89
 t75 := Tryd.underlying30
 a75 := Tryd.isAgg30
 z75 := Tryd.sizeOf30
 v75 := Tryd.zeroValue30
 t85 := Tryd.underlying87
 a85 := Tryd.isAgg87
 z85 := Tryd.sizeOf87
 v85 := Tryd.zeroValue87
 t127 := Tryd.underlying104
 a127 := Tryd.isAgg104
 z127 := Tryd.sizeOf104
 v127 := Tryd.zeroValue104
 t143 := Tryd.underlying171
 a143 := Tryd.isAgg171
 z143 := Tryd.sizeOf171
 v143 := Tryd.zeroValue171
 t145 := Tryd.underlying173
 a145 := Tryd.isAgg173
 z145 := Tryd.sizeOf173
 v145 := Tryd.zeroValue173
 t167 := Tryd.underlying141
 a167 := Tryd.isAgg141
 z167 := Tryd.sizeOf141
 v167 := Tryd.zeroValue141
 t168 := Tryd.underlying144
 a168 := Tryd.isAgg144
 z168 := Tryd.sizeOf144
 v168 := Tryd.zeroValue144
 t171 := Tryd.underlying131
 a171 := Tryd.isAgg131
 z171 := Tryd.sizeOf131
 v171 := Tryd.zeroValue131
 t173 := Tryd.underlying134
 a173 := Tryd.isAgg134
 z173 := Tryd.sizeOf134
 v173 := Tryd.zeroValue134
 t175 := Tryd.underlying142
 a175 := Tryd.isAgg142
 z175 := Tryd.sizeOf142
 v175 := Tryd.zeroValue142
 t210 := Tryd.underlying163
 a210 := Tryd.isAgg163
 z210 := Tryd.sizeOf163
 v210 := Tryd.zeroValue163
 t212 := Tryd.underlying148
 a212 := Tryd.isAgg148
 z212 := Tryd.sizeOf148
 v212 := Tryd.zeroValue148
 t213 := Tryd.underlying149
 a213 := Tryd.isAgg149
 z213 := Tryd.sizeOf149
 t232 := Tryd.underlying174
 a232 := Tryd.isAgg174
 z232 := Tryd.sizeOf174
 v232 := Tryd.zeroValue174
 t233 := Tryd.underlying175
 a233 := Tryd.isAgg175
 z233 := Tryd.sizeOf175
 v233 := Tryd.zeroValue175
 g15 := by kernel_rfl
 g16 := by kernel_rfl
 g17 := by kernel_rfl
 g18 := by kernel_rfl
 g19 := by kernel_rfl
 t80 := Tryd.underlying61
 a80 := Tryd.isAgg61
 z80 := Tryd.sizeOf61
 v80 := Tryd.zeroValue61
 i0 := by kernel_rfl
 i2 := by kernel_rfl
 i3 := by kernel_rfl
 i4 := by kernel_rfl
 i5 := by kernel_rfl
 i9 := by kernel_rfl
 i20 := by kernel_rfl
 i21 := by kernel_rfl
 i37 := by kernel_rfl
 i46 := by kernel_rfl
 i51 := by kernel_rfl
 i53 := by kernel_rfl
 i75 := by kernel_rfl
 i80 := by kernel_rfl
 i85 := by kernel_rfl
 i127 := by kernel_rfl
 i143 := by kernel_rfl
 i145 := by kernel_rfl
 i167 := by kernel_rfl
 i168 := by kernel_rfl
 i171 := by kernel_rfl
 i173 := by kernel_rfl
 i175 := by kernel_rfl
 i210 := by kernel_rfl
 i212 := by kernel_rfl
 i232 := by kernel_rfl
 i233 := by kernel_rfl
 m15 := by kernel_rfl
 m16 := by kernel_rfl
 m17 := by kernel_rfl
 m18 := by kernel_rfl
 m19 := by kernel_rfl
 c0 := by kernel_rfl
 c2 := by kernel_rfl
 c3 := by kernel_rfl
 c4 := by kernel_rfl
 c5 := by kernel_rfl
 c9 := by kernel_rfl
 c20 := by kernel_rfl
 c21 := by kernel_rfl
 c37 := by kernel_rfl
 c46 := by kernel_rfl
 c51 := by kernel_rfl
 c53 := by kernel_rfl
 c75 := by kernel_rfl
 c80 := by kernel_rfl
 c85 := by kernel_rfl
 c127 := by kernel_rfl
 c143 := by kernel_rfl
 c145 := by kernel_rfl
 c167 := by kernel_rfl
 c168 := by kernel_rfl
 c171 := by kernel_rfl
 c173 := by kernel_rfl
 c175 := by kernel_rfl
 c210 := by kernel_rfl
 c212 := by kernel_rfl
 c213 := by kernel_rfl
 c232 := by kernel_rfl
 c233 := by kernel_rfl }
open Go.RowKit in
theorem Tryd.strconv_ParseInt_10_at64_ok (s : ByteArray) (hmax : s.size ≤ 9223372036854775806) (v : Int) (h : Lib.parseIntB 64 s.data.toList = .ok v) (w : World) :
  Calls Tryd.prog 57 #[.string s, .int .i64 10, .int .i64 64] w fun e w' => e = .returned (.tuple #[.int .i64 v, .nilIface]) ∧ (w' = w ∨ ∃ t, w' = Lib.bytesWorld w 5 t) := Any.strconv_ParseInt_10_at64_ok Tryd.laysC174 s hmax v h w
open Go.RowKit in
theorem Tryd.strconv_ParseInt_10_at64_syntax_var (s : ByteArray) (hlim : s.size ≤ 281474976710656) (h : Lib.parseIntB 64 s.data.toList = .«syntax») (tp : TypeId) (p : Value) (w : World) (hvar : w.var? Tryd.prog "strconv.ErrSyntax" = some #[.iface tp p]) :
  Calls Tryd.prog 57 #[.string s, .int .i64 10, .int .i64 64] w fun e w' => ∃ N, e = .returned (.tuple #[.int .i64 (0), .iface 144 (.pointer (some ⟨N, 0, none⟩))]) ∧ w.heap.size ≤ N ∧ w'.heap[N]? = some (.cells #[.string ⟨#[80, 97, 114, 115, 101, 73, 110, 116]⟩, .string s, .iface tp p] 163 (0, 0)) ∧ Below w.heap.size w w' := Any.strconv_ParseInt_10_at64_syntax_var Tryd.laysC174 s hlim h tp p w hvar
open Go.RowKit in
theorem Tryd.strconv_ParseInt_10_at64_range_var (s : ByteArray) (hlim : s.size ≤ 281474976710656) (h : Lib.parseIntB 64 s.data.toList = .range) (tp : TypeId) (p : Value) (w : World) (hvar : w.var? Tryd.prog "strconv.ErrRange" = some #[.iface tp p]) :
  Calls Tryd.prog 57 #[.string s, .int .i64 10, .int .i64 64] w fun e w' => ∃ N, e = .returned (.tuple #[.int .i64 (Lib.intSat 64 s.data.toList), .iface 144 (.pointer (some ⟨N, 0, none⟩))]) ∧ w.heap.size ≤ N ∧ w'.heap[N]? = some (.cells #[.string ⟨#[80, 97, 114, 115, 101, 73, 110, 116]⟩, .string s, .iface tp p] 163 (0, 0)) ∧ Below w.heap.size w w' := Any.strconv_ParseInt_10_at64_range_var Tryd.laysC174 s hlim h tp p w hvar
def Tryd.lays143_ren : Go.Shelf.Ren := ⟨fun | 143 => 37 | 219 => 55 | 217 => 73 | 225 => 74 | 224 => 75 | 267 => 76 | 266 => 89 | 314 => 90 | n => n, fun | 9 => 9 | 3 => 3 | 4 => 4 | 5 => 5 | 46 => 111 | 146 => 139 | 51 => 138 | n => n, fun | 1 => 1 | n => n⟩
theorem Tryd.lays143 : Go.Proofs.Lays.n143 Tryd.prog Tryd.lays143_ren := {
 mixed := by kernel_rfl
 f143 := Tryd.func37.trans (congrArg some (by kernel_rfl))
 f217 := Tryd.func73.trans (congrArg some (by kernel_rfl))
 f219 := Tryd.func55.trans (congrArg some (by kernel_rfl))
 f224 := Tryd.func75.trans (congrArg some (by kernel_rfl))
 f225 := Tryd.func74.trans (congrArg some (by kernel_rfl))
 f266 := Tryd.func89.trans (congrArg some (by kernel_rfl))
 f267 := Tryd.func76.trans (congrArg some (by kernel_rfl))
 f314 := Tryd.func90.trans (congrArg some (by kernel_rfl))
 t3 := Tryd.underlying3
 a3 := Tryd.isAgg3
 z3 := Tryd.sizeOf3
 v3 := Tryd.zeroValue3
 t4 := Tryd.underlying4
 a4 := Tryd.isAgg4
 z4 := Tryd.sizeOf4
 v4 := Tryd.zeroValue4
 t5 := Tryd.underlying5
 a5 := Tryd.isAgg5
 z5 := Tryd.sizeOf5
 v5 := Tryd.zeroValue5
 t9 := Tryd.underlying9
 a9 := Tryd.isAgg9
 z9 := Tryd.sizeOf9
 v9 := Tryd.zeroValue9
 t46 := Tryd.underlying111
 a46 := Tryd.isAgg111
 z46 := Tryd.sizeOf111
 v46 := Tryd.zeroValue111
 t51 := Tryd.underlying138
 a51 := Tryd.isAgg138
 z51 := Tryd.sizeOf138
 v51 := Tryd.zeroValue138
 t146 := Tryd.underlying139
 a146 := Tryd.isAgg139
 z146 := Tryd.sizeOf139
 v146 := Tryd.zeroValue139
 g1 := by kernel_rfl }
open Go.RowKit Go.Lib in
theorem Tryd.strings_Index_one (s : ByteArray) (c : UInt8) (w : World) :
  Calls Tryd.prog 37 #[.string s, .string ⟨#[c]⟩] w fun e w' => e = .returned (.int .i64 (Lib.indexByte s.data.toList c)) ∧ w' = w := Any.strings_Index_one Tryd.lays143 s c w
def Tryd.lays145_ren : Go.Shelf.Ren := ⟨fun | 145 => 51 | 220 => 72 | 219 => 55 | 217 => 73 | 225 => 74 | 224 => 75 | 267 => 76 | 266 => 89 | 314 => 90 | n => n, fun | 9 => 9 | 4 => 4 | 59 => 84 | 3 => 3 | 5 => 5 | 46 => 111 | 146 => 139 | 51 => 138 | n => n, fun | 1 => 1 | n => n⟩
theorem Tryd.lays145 : Go.Proofs.Lays.n145 Tryd.prog Tryd.lays145_ren := {
 mixed := by kernel_rfl
 f145 := Tryd.func51.trans (congrArg some (by kernel_rfl))
 f217 := Tryd.func73.trans (congrArg some (by kernel_rfl))
 f219 := Tryd.func55.trans (congrArg some (by kernel_rfl))
 f220 := Tryd.func72.trans (congrArg some (by kernel_rfl))
 f224 := Tryd.func75.trans (congrArg some (by kernel_rfl))
 f225 := Tryd.func74.trans (congrArg some (by kernel_rfl))
 f266 := Tryd.func89.trans (congrArg some (by kernel_rfl))
 f267 := Tryd.func76.trans (congrArg some (by kernel_rfl))
 f314 := Tryd.func90.trans (congrArg some (by kernel_rfl))
 t3 := Tryd.underlying3
 a3 := Tryd.isAgg3
 z3 := Tryd.sizeOf3
 v3 := Tryd.zeroValue3
 t4 := Tryd.underlying4
 a4 := Tryd.isAgg4
 z4 := Tryd.sizeOf4
 v4 := Tryd.zeroValue4
 t5 := Tryd.underlying5
 a5 := Tryd.isAgg5
 z5 := Tryd.sizeOf5
 v5 := Tryd.zeroValue5
 t9 := Tryd.underlying9
 a9 := Tryd.isAgg9
 z9 := Tryd.sizeOf9
 v9 := Tryd.zeroValue9
 t46 := Tryd.underlying111
 a46 := Tryd.isAgg111
 z46 := Tryd.sizeOf111
 v46 := Tryd.zeroValue111
 t51 := Tryd.underlying138
 a51 := Tryd.isAgg138
 z51 := Tryd.sizeOf138
 v51 := Tryd.zeroValue138
 t59 := Tryd.underlying84
 a59 := Tryd.isAgg84
 z59 := Tryd.sizeOf84
 v59 := Tryd.zeroValue84
 t146 := Tryd.underlying139
 a146 := Tryd.isAgg139
 z146 := Tryd.sizeOf139
 v146 := Tryd.zeroValue139
 g1 := by kernel_rfl }
open Go.RowKit Go.Lib in
theorem Tryd.strings_Cut (s sep : ByteArray) (m : Int) (w : World) (hs : s.size < 4294967281) (hm : w.cell? ⟨1, 0, none⟩ = some (.int .i64 m)) :
  Calls Tryd.prog 51 #[.string s, .string sep] w fun e w' => e = .returned (.tuple #[.string ⟨(Lib.cut s.data.toList sep.data.toList).1.toArray⟩, .string ⟨(Lib.cut s.data.toList sep.data.toList).2.1.toArray⟩, .bool (Lib.cut s.data.toList sep.data.toList).2.2]) ∧ ∃ n, w' = w.drewN n := Any.strings_Cut Tryd.lays145 s sep m w hs hm
end Go.Proofs
