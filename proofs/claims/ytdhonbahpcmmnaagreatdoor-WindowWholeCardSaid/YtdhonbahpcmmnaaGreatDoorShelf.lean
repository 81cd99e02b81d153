/-
 DERIVED: THE SHELF's CONTRACTS AT THIS DUMP, IN PLAIN WORDS (tools/lay-plain.mjs out of 'TryzShelf.lean', which tools/lay-shelf.mjs wrote): THE SAME DECLARATIONS UNDER THE SAME NAMES: 'import', 'namespace', 'open', 'def', 'theorem' AND NOTHING ELSE: no command of the shelf's: FOR A HAND-IN. Each laying: the table of numbers ('.._ren') and one theorem, a field a fact of the dump's own or the kernel's comparison; each contract: ONE APPLICATION.
-/
import Derived.Shelf.Strings.Builder1
import Derived.Shelf.Small.Bits
import Derived.Shelf.Small.Wraps
import Derived.Shelf.Strings.BuilderF
import Derived.Shelf.Strings.BuilderK
import Derived.Shelf.Strconv.Itoa0
import Derived.Shelf.Strconv.Itoa1
import Derived.Shelf.LaysM
import Derived.Shelf.Strconv.Itoa2
import Derived.Shelf.Strconv.Itoa3
import Derived.Shelf.Strconv.Itoa4
import Derived.Shelf.Strconv.ParseIntEmpty
import Derived.Shelf.Strconv.Clone
import Derived.Shelf.Strconv.SyntaxError
import Derived.Shelf.LaysC
import Derived.Shelf.Strconv.ToError
import Derived.Shelf.Strconv.Lower
import Derived.Shelf.Strconv.ParseUint10
import Derived.Shelf.Strconv.ParseUint10Empty
import Derived.Shelf.Strconv.ParseUint10Any
import Derived.Shelf.Strconv.ParseInt10
import Derived.Shelf.Strconv.RangeError
import Derived.Shelf.Strconv.ToErrorRange
import Derived.Shelf.Strconv.ParseUintEmpty
import Derived.Shelf.Strconv.ParseUint10b64
import Derived.Shelf.Strconv.ParseUint10b32
import Derived.Shelf.Strconv.ParseUint10b16
import Derived.Shelf.Strconv.ParseUint10b8
import Derived.Shelf.Strconv.ParseUint10At
import Derived.Shelf.Strconv.ParseInt10At64
import Derived.Shelf.Strconv.ParseInt10At32
import Derived.Shelf.Strconv.ParseInt10At16
import Derived.Shelf.Strconv.ParseInt10At8
import Derived.Shelf.Strconv.ParseInt10All
import Derived.Shelf.Strconv.ParseIntPublic10
import Derived.Shelf.Strconv.ErrVarParseInt
import Derived.Shelf.Strings.Search1
import Derived.Shelf.Strings.Search2
import Derived.Shelf.Strings.Search3
import Derived.Shelf.Strings.Cut
import Derived.Shelf.Strings.Shaped
import Derived.Shelf.Strings.BuilderCap
import Derived.Ground.Names2Prog
import Derived.Shelf.Slices.SearchI
import Derived.Ground.SlgnProg
import Derived.Shelf.SlicesG.SearchI
import Derived.Shelf.SlicesE.Clone
import Derived.Test.YtdhonbahpcmmnaaGreatDoorProg
namespace Go.Proofs
open Go.Shelf
def Tryz.lays169_ren : Go.Shelf.Ren := ⟨fun | 169 => 121 | n => n, fun | 70 => 171 | 9 => 9 | 0 => 0 | 72 => 173 | 37 => 27 | 127 => 192 | 3 => 3 | 5 => 5 | n => n, fun | n => n⟩
theorem Tryz.lays169 : Go.Proofs.Lays.n169 Tryz.prog Tryz.lays169_ren := {
 mixed := by kernel_rfl
 f169 := Tryz.func121.trans (congrArg some (by kernel_rfl))
 t0 := Tryz.underlying0
 a0 := Tryz.isAgg0
 z0 := Tryz.sizeOf0
 v0 := Tryz.zeroValue0
 t3 := Tryz.underlying3
 a3 := Tryz.isAgg3
 z3 := Tryz.sizeOf3
 v3 := Tryz.zeroValue3
 t9 := Tryz.underlying9
 a9 := Tryz.isAgg9
 z9 := Tryz.sizeOf9
 v9 := Tryz.zeroValue9
 t37 := Tryz.underlying27
 a37 := Tryz.isAgg27
 z37 := Tryz.sizeOf27
 v37 := Tryz.zeroValue27
 t70 := Tryz.underlying171
 a70 := Tryz.isAgg171
 z70 := Tryz.sizeOf171
 v70 := Tryz.zeroValue171
 t72 := Tryz.underlying173
 a72 := Tryz.isAgg173
 z72 := Tryz.sizeOf173
 v72 := Tryz.zeroValue173
 t127 := Tryz.underlying192
 a127 := Tryz.isAgg192
 z127 := Tryz.sizeOf192
 v127 := Tryz.zeroValue192 }
theorem Tryz.Builder_Extra_169 : Builder.Extra Tryz.prog Tryz.lays169_ren := {
 sizeBuilder := by kernel_rfl
 liesBuilder := by kernel_rfl
 t5 := Tryz.underlying5
 a5 := Tryz.isAgg5
 z5 := Tryz.sizeOf5
 v5 := Tryz.zeroValue5
 infoByte := by kernel_rfl
 cellsByte := by kernel_rfl
 sizeByte := by kernel_rfl
 neB5 := by decide }
open Go.RowKit in
theorem Tryz.Builder_String_any (B b : Nat) (l : List UInt8) (w : World) (h : Lib.IsBuilder 173 5 B b (Lib.byteCells l) w) (hBw : B ≤ w.heap.size) :
  Calls Tryz.prog 121 #[.pointer (some ⟨b, 0, none⟩)] w fun e w' => e = .returned (.string ⟨l.toArray⟩) ∧ Below B w w' := Any.Builder_String_any Tryz.lays169 Tryz.Builder_Extra_169 B b l w h hBw
def Tryz.lays125_ren : Go.Shelf.Ren := ⟨fun | 125 => 73 | 128 => 99 | 129 => 100 | n => n, fun | 46 => 112 | 3 => 3 | 51 => 158 | 53 => 46 | 4 => 4 | 5 => 5 | 9 => 9 | n => n, fun | n => n⟩
theorem Tryz.lays125 : Go.Proofs.Lays.n125 Tryz.prog Tryz.lays125_ren := {
 mixed := by kernel_rfl
 f125 := Tryz.func73.trans (congrArg some (by kernel_rfl))
 f128 := Tryz.func99.trans (congrArg some (by kernel_rfl))
 f129 := Tryz.func100.trans (congrArg some (by kernel_rfl))
 t3 := Tryz.underlying3
 a3 := Tryz.isAgg3
 z3 := Tryz.sizeOf3
 v3 := Tryz.zeroValue3
 t4 := Tryz.underlying4
 a4 := Tryz.isAgg4
 z4 := Tryz.sizeOf4
 v4 := Tryz.zeroValue4
 t5 := Tryz.underlying5
 a5 := Tryz.isAgg5
 z5 := Tryz.sizeOf5
 v5 := Tryz.zeroValue5
 t9 := Tryz.underlying9
 a9 := Tryz.isAgg9
 z9 := Tryz.sizeOf9
 v9 := Tryz.zeroValue9
 t46 := Tryz.underlying112
 a46 := Tryz.isAgg112
 z46 := Tryz.sizeOf112
 v46 := Tryz.zeroValue112
 t51 := Tryz.underlying158
 a51 := Tryz.isAgg158
 z51 := Tryz.sizeOf158
 v51 := Tryz.zeroValue158
 t53 := Tryz.underlying46
 a53 := Tryz.isAgg46
 z53 := Tryz.sizeOf46
 v53 := Tryz.zeroValue46 }
theorem Tryz.bits_Len (x : Int) (w : World) (h0 : 0 ≤ x) (h1 : x ≤ 18446744073709551615) :
  Calls Tryz.prog 73 #[.int .u64 x] w fun e w' => e = .returned (.int .i64 (Lib.bitLen x.toNat)) ∧ w' = w := Any.bits_Len Tryz.lays125 x w h0 h1
def Tryz.lays129_ren : Go.Shelf.Ren := ⟨fun | 129 => 100 | n => n, fun | 53 => 46 | 3 => 3 | 4 => 4 | 46 => 112 | 5 => 5 | 9 => 9 | n => n, fun | n => n⟩
theorem Tryz.lays129 : Go.Proofs.Lays.n129 Tryz.prog Tryz.lays129_ren := {
 mixed := by kernel_rfl
 f129 := Tryz.func100.trans (congrArg some (by kernel_rfl))
 t3 := Tryz.underlying3
 a3 := Tryz.isAgg3
 z3 := Tryz.sizeOf3
 v3 := Tryz.zeroValue3
 t4 := Tryz.underlying4
 a4 := Tryz.isAgg4
 z4 := Tryz.sizeOf4
 v4 := Tryz.zeroValue4
 t5 := Tryz.underlying5
 a5 := Tryz.isAgg5
 z5 := Tryz.sizeOf5
 v5 := Tryz.zeroValue5
 t9 := Tryz.underlying9
 a9 := Tryz.isAgg9
 z9 := Tryz.sizeOf9
 v9 := Tryz.zeroValue9
 t46 := Tryz.underlying112
 a46 := Tryz.isAgg112
 z46 := Tryz.sizeOf112
 v46 := Tryz.zeroValue112
 t53 := Tryz.underlying46
 a53 := Tryz.isAgg46
 z53 := Tryz.sizeOf46
 v53 := Tryz.zeroValue46 }
theorem Tryz.bits_Len64 (x : Int) (w : World) (h0 : 0 ≤ x) (h1 : x ≤ 18446744073709551615) :
  Calls Tryz.prog 100 #[.int .u64 x] w fun e w' => e = .returned (.int .i64 (Lib.bitLen x.toNat)) ∧ w' = w := Any.bits_Len64 Tryz.lays129 x w h0 h1
def Tryz.laysM173_ren : Go.Shelf.Ren := ⟨fun | 173 => 120 | 246 => 147 | 283 => 169 | 284 => 170 | 285 => 171 | 286 => 172 | 129 => 100 | 317 => 182 | 318 => 183 | 319 => 184 | 320 => 185 | 337 => 188 | 338 => 189 | n => n, fun | 2 => 2 | 3 => 3 | 9 => 9 | 4 => 4 | 171 => 214 | 0 => 0 | 53 => 46 | 37 => 27 | 5 => 5 | 173 => 216 | 212 => 227 | 51 => 158 | 20 => 20 | 213 => 228 | 46 => 112 | 232 => 233 | 233 => 234 | n => n, fun | 17 => 3 | 18 => 4 | 19 => 5 | n => n⟩
theorem Tryz.laysM173 : Go.Proofs.LaysM.n173 Tryz.prog Tryz.laysM173_ren := {
 mixed := by kernel_rfl
 f129 := Tryz.func100.trans (congrArg some (by kernel_rfl))
 f173 := Tryz.func120.trans (congrArg some (by kernel_rfl))
 f246 := Tryz.func147.trans (congrArg some (by kernel_rfl))
 f283 := Tryz.func169.trans (congrArg some (by kernel_rfl))
 f284 := Tryz.func170.trans (congrArg some (by kernel_rfl))
 f285 := Tryz.func171.trans (congrArg some (by kernel_rfl))
 f286 := Tryz.func172.trans (congrArg some (by kernel_rfl))
 f317 := Tryz.func182.trans (congrArg some (by kernel_rfl))
 f318 := Tryz.func183.trans (congrArg some (by kernel_rfl))
 f319 := Tryz.func184.trans (congrArg some (by kernel_rfl))
 f320 := Tryz.func185.trans (congrArg some (by kernel_rfl))
 f337 := Tryz.func188.trans (congrArg some (by kernel_rfl))
 f338 := Tryz.func189.trans (congrArg some (by kernel_rfl))
 t0 := Tryz.underlying0
 a0 := Tryz.isAgg0
 z0 := Tryz.sizeOf0
 v0 := Tryz.zeroValue0
 t2 := Tryz.underlying2
 a2 := Tryz.isAgg2
 z2 := Tryz.sizeOf2
 v2 := Tryz.zeroValue2
 t3 := Tryz.underlying3
 a3 := Tryz.isAgg3
 z3 := Tryz.sizeOf3
 v3 := Tryz.zeroValue3
 t4 := Tryz.underlying4
 a4 := Tryz.isAgg4
 z4 := Tryz.sizeOf4
 v4 := Tryz.zeroValue4
 t5 := Tryz.underlying5
 a5 := Tryz.isAgg5
 z5 := Tryz.sizeOf5
 v5 := Tryz.zeroValue5
 t9 := Tryz.underlying9
 a9 := Tryz.isAgg9
 z9 := Tryz.sizeOf9
 v9 := Tryz.zeroValue9
 t20 := Tryz.underlying20
 a20 := Tryz.isAgg20
 z20 := Tryz.sizeOf20
 v20 := Tryz.zeroValue20
 t37 := Tryz.underlying27
 a37 := Tryz.isAgg27
 z37 := Tryz.sizeOf27
 v37 := Tryz.zeroValue27
 t46 := Tryz.underlying112
 a46 := Tryz.isAgg112
 z46 := Tryz.sizeOf112
 v46 := Tryz.zeroValue112
 t51 := Tryz.underlying158
 a51 := Tryz.isAgg158
 z51 := Tryz.sizeOf158
 v51 := Tryz.zeroValue158
 t53 := Tryz.underlying46
 a53 := Tryz.isAgg46
 z53 := Tryz.sizeOf46
 v53 := Tryz.zeroValue46
 t171 := Tryz.underlying214
 a171 := Tryz.isAgg214
 z171 := Tryz.sizeOf214
 v171 := Tryz.zeroValue214
 t173 := Tryz.underlying216
 a173 := Tryz.isAgg216
 z173 := Tryz.sizeOf216
 v173 := Tryz.zeroValue216
 t212 := Tryz.underlying227
 a212 := Tryz.isAgg227
 z212 := Tryz.sizeOf227
 v212 := Tryz.zeroValue227
 t213 := Tryz.underlying228
 a213 := Tryz.isAgg228
 z213 := Tryz.sizeOf228
 t232 := Tryz.underlying233
 a232 := Tryz.isAgg233
 z232 := Tryz.sizeOf233
 v232 := Tryz.zeroValue233
 t233 := Tryz.underlying234
 a233 := Tryz.isAgg234
 z233 := Tryz.sizeOf234
 v233 := Tryz.zeroValue234
 g17 := by kernel_rfl
 g18 := by kernel_rfl
 g19 := by kernel_rfl
 i0 := by kernel_rfl
 i2 := by kernel_rfl
 i3 := by kernel_rfl
 i4 := by kernel_rfl
 i5 := by kernel_rfl
 i9 := by kernel_rfl
 i20 := by kernel_rfl
 i37 := by kernel_rfl
 i46 := by kernel_rfl
 i51 := by kernel_rfl
 i53 := by kernel_rfl
 i171 := by kernel_rfl
 i173 := by kernel_rfl
 i212 := by kernel_rfl
 i232 := by kernel_rfl
 i233 := by kernel_rfl
 m17 := by kernel_rfl
 m18 := by kernel_rfl
 m19 := by kernel_rfl }
open Go.RowKit Go.Sort Go.Lib in
theorem Tryz.strconv_FormatInt_10 (n : Int) (h0 : -9223372036854775808 ≤ n) (h1 : n ≤ 9223372036854775807) (w : World) (htab : Lib.TabIs Tryz.prog w "internal/strconv.uint64pow10" .u64 Lib.pow10Tab) :
  Calls Tryz.prog 120 #[.int .i64 n, .int .i64 10] w fun e w' => e = .returned (.string ⟨(Lib.itoa n).toArray⟩) ∧ ∃ k os, w' = grow (w.drewN k) os := Any.strconv_FormatInt_10 Tryz.laysM173 n h0 h1 w htab
def Tryz.laysC174_ren : Go.Shelf.Ren := ⟨fun | 174 => 114 | 247 => 143 | 245 => 144 | 287 => 155 | 279 => 156 | 280 => 157 | 281 => 158 | 282 => 159 | 321 => 174 | 322 => 175 | 316 => 176 | 171 => 178 | 205 => 177 | 243 => 186 | 246 => 147 | 283 => 169 | 284 => 170 | 285 => 171 | 286 => 172 | 129 => 100 | 317 => 182 | 318 => 183 | 319 => 184 | 320 => 185 | 337 => 188 | 338 => 189 | n => n, fun | 9 => 9 | 3 => 3 | 2 => 2 | 75 => 29 | 85 => 165 | 4 => 4 | 167 => 201 | 5 => 5 | 53 => 46 | 175 => 202 | 46 => 112 | 168 => 204 | 37 => 27 | 0 => 0 | 210 => 222 | 21 => 21 | 127 => 192 | 145 => 231 | 143 => 229 | 171 => 214 | 173 => 216 | 212 => 227 | 51 => 158 | 20 => 20 | 213 => 228 | 232 => 233 | 233 => 234 | 80 => 139 | n => n, fun | 15 => 1 | 16 => 2 | 17 => 3 | 18 => 4 | 19 => 5 | n => n⟩
theorem Tryz.laysC174 : Go.Proofs.LaysC.n174 Tryz.prog Tryz.laysC174_ren := {
 mixed := by kernel_rfl
 f129 := Tryz.func100.trans (congrArg some (by kernel_rfl))
 f171 := Tryz.func178.trans (congrArg some (by kernel_rfl))
 f174 := Tryz.func114.trans (congrArg some (by kernel_rfl))
 f205 := Tryz.func177.trans (congrArg some (by kernel_rfl))
 f243 := Tryz.func186.trans (congrArg some (by kernel_rfl))
 f245 := Tryz.func144.trans (congrArg some (by kernel_rfl))
 f246 := Tryz.func147.trans (congrArg some (by kernel_rfl))
 f247 := Tryz.func143.trans (congrArg some (by kernel_rfl))
 f279 := Tryz.func156.trans (congrArg some (by kernel_rfl))
 f280 := Tryz.func157.trans (congrArg some (by kernel_rfl))
 f281 := Tryz.func158.trans (congrArg some (by kernel_rfl))
 f282 := Tryz.func159.trans (congrArg some (by kernel_rfl))
 f283 := Tryz.func169.trans (congrArg some (by kernel_rfl))
 f284 := Tryz.func170.trans (congrArg some (by kernel_rfl))
 f285 := Tryz.func171.trans (congrArg some (by kernel_rfl))
 f286 := Tryz.func172.trans (congrArg some (by kernel_rfl))
 f287 := Tryz.func155.trans (congrArg some (by kernel_rfl))
 f316 := Tryz.func176.trans (congrArg some (by kernel_rfl))
 f317 := Tryz.func182.trans (congrArg some (by kernel_rfl))
 f318 := Tryz.func183.trans (congrArg some (by kernel_rfl))
 f319 := Tryz.func184.trans (congrArg some (by kernel_rfl))
 f320 := Tryz.func185.trans (congrArg some (by kernel_rfl))
 f321 := Tryz.func174.trans (congrArg some (by kernel_rfl))
 f322 := Tryz.func175.trans (congrArg some (by kernel_rfl))
 f337 := Tryz.func188.trans (congrArg some (by kernel_rfl))
 f338 := Tryz.func189.trans (congrArg some (by kernel_rfl))
 t0 := Tryz.underlying0
 a0 := Tryz.isAgg0
 z0 := Tryz.sizeOf0
 v0 := Tryz.zeroValue0
 t2 := Tryz.underlying2
 a2 := Tryz.isAgg2
 z2 := Tryz.sizeOf2
 v2 := Tryz.zeroValue2
 t3 := Tryz.underlying3
 a3 := Tryz.isAgg3
 z3 := Tryz.sizeOf3
 v3 := Tryz.zeroValue3
 t4 := Tryz.underlying4
 a4 := Tryz.isAgg4
 z4 := Tryz.sizeOf4
 v4 := Tryz.zeroValue4
 t5 := Tryz.underlying5
 a5 := Tryz.isAgg5
 z5 := Tryz.sizeOf5
 v5 := Tryz.zeroValue5
 t9 := Tryz.underlying9
 a9 := Tryz.isAgg9
 z9 := Tryz.sizeOf9
 v9 := Tryz.zeroValue9
 t20 := Tryz.underlying20
 a20 := Tryz.isAgg20
 z20 := Tryz.sizeOf20
 v20 := Tryz.zeroValue20
 t21 := Tryz.underlying21
 a21 := Tryz.isAgg21
 z21 := Tryz.sizeOf21
 v21 := Tryz.zeroValue21
 t37 := Tryz.underlying27
 a37 := Tryz.isAgg27
 z37 := Tryz.sizeOf27
 v37 := Tryz.zeroValue27
 t46 := Tryz.underlying112
 a46 := Tryz.isAgg112
 z46 := Tryz.sizeOf112
 v46 := Tryz.zeroValue112
 t51 := Tryz.underlying158
 a51 := Tryz.isAgg158
 z51 := Tryz.sizeOf158
 v51 := Tryz.zeroValue158
 t53 := Tryz.underlying46
 a53 := Tryz.isAgg46
 z53 := Tryz.sizeOf46
 v53 := Tryz.zeroValue46
 t75 := Tryz.underlying29
 a75 := Tryz.isAgg29
 z75 := Tryz.sizeOf29
 v75 := Tryz.zeroValue29
 t85 := Tryz.underlying165
 a85 := Tryz.isAgg165
 z85 := Tryz.sizeOf165
 v85 := Tryz.zeroValue165
 t127 := Tryz.underlying192
 a127 := Tryz.isAgg192
 z127 := Tryz.sizeOf192
 v127 := Tryz.zeroValue192
 t143 := Tryz.underlying229
 a143 := Tryz.isAgg229
 z143 := Tryz.sizeOf229
 v143 := Tryz.zeroValue229
 t145 := Tryz.underlying231
 a145 := Tryz.isAgg231
 z145 := Tryz.sizeOf231
 v145 := Tryz.zeroValue231
 t167 := Tryz.underlying201
 a167 := Tryz.isAgg201
 z167 := Tryz.sizeOf201
 v167 := Tryz.zeroValue201
 t168 := Tryz.underlying204
 a168 := Tryz.isAgg204
 z168 := Tryz.sizeOf204
 v168 := Tryz.zeroValue204
 t171 := Tryz.underlying214
 a171 := Tryz.isAgg214
 z171 := Tryz.sizeOf214
 v171 := Tryz.zeroValue214
 t173 := Tryz.underlying216
 a173 := Tryz.isAgg216
 z173 := Tryz.sizeOf216
 v173 := Tryz.zeroValue216
 t175 := Tryz.underlying202
 a175 := Tryz.isAgg202
 z175 := Tryz.sizeOf202
 v175 := Tryz.zeroValue202
 t210 := Tryz.underlying222
 a210 := Tryz.isAgg222
 z210 := Tryz.sizeOf222
 v210 := Tryz.zeroValue222
 t212 := Tryz.underlying227
 a212 := Tryz.isAgg227
 z212 := Tryz.sizeOf227
 v212 := Tryz.zeroValue227
 t213 := Tryz.underlying228
 a213 := Tryz.isAgg228
 z213 := Tryz.sizeOf228
 t232 := Tryz.underlying233
 a232 := Tryz.isAgg233
 z232 := Tryz.sizeOf233
 v232 := Tryz.zeroValue233
 t233 := Tryz.underlying234
 a233 := Tryz.isAgg234
 z233 := Tryz.sizeOf234
 v233 := Tryz.zeroValue234
 g15 := by kernel_rfl
 g16 := by kernel_rfl
 g17 := by kernel_rfl
 g18 := by kernel_rfl
 g19 := by kernel_rfl
 t80 := Tryz.underlying139
 a80 := Tryz.isAgg139
 z80 := Tryz.sizeOf139
 v80 := Tryz.zeroValue139
 i0 := by kernel_rfl
 i2 := by kernel_rfl
 i3 := by kernel_rfl
 i4 := by kernel_rfl
 i5 := by kernel_rfl
 i9 := by kernel_rfl
 i20 := by kernel_rfl
 i21 := by kernel_rfl
 i37 := by kernel_rfl
 i46 := by kernel_rfl
 i51 := by kernel_rfl
 i53 := by kernel_rfl
 i75 := by kernel_rfl
 i80 := by kernel_rfl
 i85 := by kernel_rfl
 i127 := by kernel_rfl
 i143 := by kernel_rfl
 i145 := by kernel_rfl
 i167 := by kernel_rfl
 i168 := by kernel_rfl
 i171 := by kernel_rfl
 i173 := by kernel_rfl
 i175 := by kernel_rfl
 i210 := by kernel_rfl
 i212 := by kernel_rfl
 i232 := by kernel_rfl
 i233 := by kernel_rfl
 m15 := by kernel_rfl
 m16 := by kernel_rfl
 m17 := by kernel_rfl
 m18 := by kernel_rfl
 m19 := by kernel_rfl
 c0 := by kernel_rfl
 c2 := by kernel_rfl
 c3 := by kernel_rfl
 c4 := by kernel_rfl
 c5 := by kernel_rfl
 c9 := by kernel_rfl
 c20 := by kernel_rfl
 c21 := by kernel_rfl
 c37 := by kernel_rfl
 c46 := by kernel_rfl
 c51 := by kernel_rfl
 c53 := by kernel_rfl
 c75 := by kernel_rfl
 c80 := by kernel_rfl
 c85 := by kernel_rfl
 c127 := by kernel_rfl
 c143 := by kernel_rfl
 c145 := by kernel_rfl
 c167 := by kernel_rfl
 c168 := by kernel_rfl
 c171 := by kernel_rfl
 c173 := by kernel_rfl
 c175 := by kernel_rfl
 c210 := by kernel_rfl
 c212 := by kernel_rfl
 c213 := by kernel_rfl
 c232 := by kernel_rfl
 c233 := by kernel_rfl }
open Go.RowKit in
theorem Tryz.strconv_ParseInt_10_at64_ok (s : ByteArray) (hmax : s.size ≤ 9223372036854775806) (v : Int) (h : Lib.parseIntB 64 s.data.toList = .ok v) (w : World) :
  Calls Tryz.prog 114 #[.string s, .int .i64 10, .int .i64 64] w fun e w' => e = .returned (.tuple #[.int .i64 v, .nilIface]) ∧ (w' = w ∨ ∃ t, w' = Lib.bytesWorld w 5 t) := Any.strconv_ParseInt_10_at64_ok Tryz.laysC174 s hmax v h w
open Go.RowKit in
theorem Tryz.strconv_ParseInt_10_at64_syntax_var (s : ByteArray) (hlim : s.size ≤ 281474976710656) (h : Lib.parseIntB 64 s.data.toList = .«syntax») (tp : TypeId) (p : Value) (w : World) (hvar : w.var? Tryz.prog "strconv.ErrSyntax" = some #[.iface tp p]) :
  Calls Tryz.prog 114 #[.string s, .int .i64 10, .int .i64 64] w fun e w' => ∃ N, e = .returned (.tuple #[.int .i64 (0), .iface 204 (.pointer (some ⟨N, 0, none⟩))]) ∧ w.heap.size ≤ N ∧ w'.heap[N]? = some (.cells #[.string ⟨#[80, 97, 114, 115, 101, 73, 110, 116]⟩, .string s, .iface tp p] 222 (0, 0)) ∧ Below w.heap.size w w' := Any.strconv_ParseInt_10_at64_syntax_var Tryz.laysC174 s hlim h tp p w hvar
open Go.RowKit in
theorem Tryz.strconv_ParseInt_10_at64_range_var (s : ByteArray) (hlim : s.size ≤ 281474976710656) (h : Lib.parseIntB 64 s.data.toList = .range) (tp : TypeId) (p : Value) (w : World) (hvar : w.var? Tryz.prog "strconv.ErrRange" = some #[.iface tp p]) :
  Calls Tryz.prog 114 #[.string s, .int .i64 10, .int .i64 64] w fun e w' => ∃ N, e = .returned (.tuple #[.int .i64 (Lib.intSat 64 s.data.toList), .iface 204 (.pointer (some ⟨N, 0, none⟩))]) ∧ w.heap.size ≤ N ∧ w'.heap[N]? = some (.cells #[.string ⟨#[80, 97, 114, 115, 101, 73, 110, 116]⟩, .string s, .iface tp p] 222 (0, 0)) ∧ Below w.heap.size w w' := Any.strconv_ParseInt_10_at64_range_var Tryz.laysC174 s hlim h tp p w hvar
def Tryz.lays143_ren : Go.Shelf.Ren := ⟨fun | 143 => 83 | 219 => 112 | 217 => 139 | 225 => 140 | 224 => 141 | 267 => 142 | 266 => 153 | 314 => 154 | n => n, fun | 9 => 9 | 3 => 3 | 4 => 4 | 5 => 5 | 46 => 112 | 146 => 199 | 51 => 158 | n => n, fun | 1 => 0 | n => n⟩
theorem Tryz.lays143 : Go.Proofs.Lays.n143 Tryz.prog Tryz.lays143_ren := {
 mixed := by kernel_rfl
 f143 := Tryz.func83.trans (congrArg some (by kernel_rfl))
 f217 := Tryz.func139.trans (congrArg some (by kernel_rfl))
 f219 := Tryz.func112.trans (congrArg some (by kernel_rfl))
 f224 := Tryz.func141.trans (congrArg some (by kernel_rfl))
 f225 := Tryz.func140.trans (congrArg some (by kernel_rfl))
 f266 := Tryz.func153.trans (congrArg some (by kernel_rfl))
 f267 := Tryz.func142.trans (congrArg some (by kernel_rfl))
 f314 := Tryz.func154.trans (congrArg some (by kernel_rfl))
 t3 := Tryz.underlying3
 a3 := Tryz.isAgg3
 z3 := Tryz.sizeOf3
 v3 := Tryz.zeroValue3
 t4 := Tryz.underlying4
 a4 := Tryz.isAgg4
 z4 := Tryz.sizeOf4
 v4 := Tryz.zeroValue4
 t5 := Tryz.underlying5
 a5 := Tryz.isAgg5
 z5 := Tryz.sizeOf5
 v5 := Tryz.zeroValue5
 t9 := Tryz.underlying9
 a9 := Tryz.isAgg9
 z9 := Tryz.sizeOf9
 v9 := Tryz.zeroValue9
 t46 := Tryz.underlying112
 a46 := Tryz.isAgg112
 z46 := Tryz.sizeOf112
 v46 := Tryz.zeroValue112
 t51 := Tryz.underlying158
 a51 := Tryz.isAgg158
 z51 := Tryz.sizeOf158
 v51 := Tryz.zeroValue158
 t146 := Tryz.underlying199
 a146 := Tryz.isAgg199
 z146 := Tryz.sizeOf199
 v146 := Tryz.zeroValue199
 g1 := by kernel_rfl }
open Go.RowKit Go.Lib in
theorem Tryz.strings_Index_one (s : ByteArray) (c : UInt8) (w : World) :
  Calls Tryz.prog 83 #[.string s, .string ⟨#[c]⟩] w fun e w' => e = .returned (.int .i64 (Lib.indexByte s.data.toList c)) ∧ w' = w := Any.strings_Index_one Tryz.lays143 s c w
def Tryz.lays145_ren : Go.Shelf.Ren := ⟨fun | 145 => 88 | 220 => 122 | 219 => 112 | 217 => 139 | 225 => 140 | 224 => 141 | 267 => 142 | 266 => 153 | 314 => 154 | n => n, fun | 9 => 9 | 4 => 4 | 59 => 146 | 3 => 3 | 5 => 5 | 46 => 112 | 146 => 199 | 51 => 158 | n => n, fun | 1 => 0 | n => n⟩
theorem Tryz.lays145 : Go.Proofs.Lays.n145 Tryz.prog Tryz.lays145_ren := {
 mixed := by kernel_rfl
 f145 := Tryz.func88.trans (congrArg some (by kernel_rfl))
 f217 := Tryz.func139.trans (congrArg some (by kernel_rfl))
 f219 := Tryz.func112.trans (congrArg some (by kernel_rfl))
 f220 := Tryz.func122.trans (congrArg some (by kernel_rfl))
 f224 := Tryz.func141.trans (congrArg some (by kernel_rfl))
 f225 := Tryz.func140.trans (congrArg some (by kernel_rfl))
 f266 := Tryz.func153.trans (congrArg some (by kernel_rfl))
 f267 := Tryz.func142.trans (congrArg some (by kernel_rfl))
 f314 := Tryz.func154.trans (congrArg some (by kernel_rfl))
 t3 := Tryz.underlying3
 a3 := Tryz.isAgg3
 z3 := Tryz.sizeOf3
 v3 := Tryz.zeroValue3
 t4 := Tryz.underlying4
 a4 := Tryz.isAgg4
 z4 := Tryz.sizeOf4
 v4 := Tryz.zeroValue4
 t5 := Tryz.underlying5
 a5 := Tryz.isAgg5
 z5 := Tryz.sizeOf5
 v5 := Tryz.zeroValue5
 t9 := Tryz.underlying9
 a9 := Tryz.isAgg9
 z9 := Tryz.sizeOf9
 v9 := Tryz.zeroValue9
 t46 := Tryz.underlying112
 a46 := Tryz.isAgg112
 z46 := Tryz.sizeOf112
 v46 := Tryz.zeroValue112
 t51 := Tryz.underlying158
 a51 := Tryz.isAgg158
 z51 := Tryz.sizeOf158
 v51 := Tryz.zeroValue158
 t59 := Tryz.underlying146
 a59 := Tryz.isAgg146
 z59 := Tryz.sizeOf146
 v59 := Tryz.zeroValue146
 t146 := Tryz.underlying199
 a146 := Tryz.isAgg199
 z146 := Tryz.sizeOf199
 v146 := Tryz.zeroValue199
 g1 := by kernel_rfl }
open Go.RowKit Go.Lib in
theorem Tryz.strings_Cut (s sep : ByteArray) (m : Int) (w : World) (hs : s.size < 4294967281) (hm : w.cell? ⟨0, 0, none⟩ = some (.int .i64 m)) :
  Calls Tryz.prog 88 #[.string s, .string sep] w fun e w' => e = .returned (.tuple #[.string ⟨(Lib.cut s.data.toList sep.data.toList).1.toArray⟩, .string ⟨(Lib.cut s.data.toList sep.data.toList).2.1.toArray⟩, .bool (Lib.cut s.data.toList sep.data.toList).2.2]) ∧ ∃ n, w' = w.drewN n := Any.strings_Cut Tryz.lays145 s sep m w hs hm
end Go.Proofs
