/- Contracts of the library, laid. -/
import Derived.Shelf.Strings.Builder1
import Derived.Shelf.Small.Strs
import Derived.Shelf.Small.Wraps
import Derived.Shelf.Strings.BuilderF
import Derived.Shelf.Strings.BuilderK
import Derived.Shelf.Strconv.Atoi
import Derived.Shelf.Strconv.Itoa0
import Derived.Shelf.Strconv.Itoa1
import Derived.Shelf.LaysM
import Derived.Shelf.Strconv.Itoa2
import Derived.Shelf.Strconv.Itoa3
import Derived.Shelf.Strconv.AtoiErrFast
import Derived.Shelf.Strconv.ParseIntEmpty
import Derived.Shelf.Strconv.AtoiFail
import Derived.Shelf.Strconv.Clone
import Derived.Shelf.Strconv.SyntaxError
import Derived.Shelf.LaysC
import Derived.Shelf.Strconv.ToError
import Derived.Shelf.Strconv.Lower
import Derived.Shelf.Strconv.ParseUint10
import Derived.Shelf.Strconv.ParseUint10Empty
import Derived.Shelf.Strconv.ParseUint10Any
import Derived.Shelf.Strconv.ParseInt10
import Derived.Shelf.Strconv.AtoiLong
import Derived.Shelf.Strconv.AtoiInnerAll
import Derived.Shelf.Strconv.RangeError
import Derived.Shelf.Strconv.ToErrorRange
import Derived.Shelf.Strconv.AtoiAll
import Derived.Shelf.Strconv.ErrVarAll
import Derived.Shelf.Strings.Search1
import Derived.Shelf.Strings.Search2
import Derived.Shelf.Strings.Cut
import Derived.Shelf.Strings.Shaped
import Derived.Shelf.Strings.Prefix
import Derived.Shelf.Strings.BuilderCap
import Derived.Shelf.Slices.Turned
import Derived.Shelf.Bytes.SlSearch0
import Derived.Shelf.Bytes.SlEqualAll
import Derived.Shelf.Bytes.Small
import Derived.Test.YtlfngkelmbdehaaGreatDoorProg
namespace Go.Proofs
open Go.Shelf
def Tryz.lays169_ren : Go.Shelf.Ren := ⟨fun | 169 => 136 | n => n, fun | 70 => 217 | 9 => 9 | 0 => 0 | 72 => 219 | 37 => 63 | 127 => 270 | 3 => 3 | 5 => 5 | n => n, fun | n => n⟩
theorem Tryz.lays169 : Go.Proofs.Lays.n169 Tryz.prog Tryz.lays169_ren := {
 mixed := by kernel_rfl
 f169 := Tryz.func136.trans (congrArg some (by kernel_rfl))
 t0 := Tryz.underlying0
 a0 := Tryz.isAgg0
 z0 := Tryz.sizeOf0
 v0 := Tryz.zeroValue0
 t3 := Tryz.underlying3
 a3 := Tryz.isAgg3
 z3 := Tryz.sizeOf3
 v3 := Tryz.zeroValue3
 t9 := Tryz.underlying9
 a9 := Tryz.isAgg9
 z9 := Tryz.sizeOf9
 v9 := Tryz.zeroValue9
 t37 := Tryz.underlying63
 a37 := Tryz.isAgg63
 z37 := Tryz.sizeOf63
 v37 := Tryz.zeroValue63
 t70 := Tryz.underlying217
 a70 := Tryz.isAgg217
 z70 := Tryz.sizeOf217
 v70 := Tryz.zeroValue217
 t72 := Tryz.underlying219
 a72 := Tryz.isAgg219
 z72 := Tryz.sizeOf219
 v72 := Tryz.zeroValue219
 t127 := Tryz.underlying270
 a127 := Tryz.isAgg270
 z127 := Tryz.sizeOf270
 v127 := Tryz.zeroValue270 }
theorem Tryz.Builder_Extra_169 : Builder.Extra Tryz.prog Tryz.lays169_ren := {
 sizeBuilder := by kernel_rfl
 liesBuilder := by kernel_rfl
 t5 := Tryz.underlying5
 a5 := Tryz.isAgg5
 z5 := Tryz.sizeOf5
 v5 := Tryz.zeroValue5
 infoByte := by kernel_rfl
 cellsByte := by kernel_rfl
 sizeByte := by kernel_rfl
 neB5 := by decide }
def Tryz.lays137_ren : Go.Shelf.Ren := ⟨fun | 137 => 126 | 217 => 172 | 266 => 214 | n => n, fun | 9 => 9 | 5 => 5 | 3 => 3 | n => n, fun | n => n⟩
theorem Tryz.lays137 : Go.Proofs.Lays.n137 Tryz.prog Tryz.lays137_ren := {
 mixed := by kernel_rfl
 f137 := Tryz.func126.trans (congrArg some (by kernel_rfl))
 f217 := Tryz.func172.trans (congrArg some (by kernel_rfl))
 f266 := Tryz.func214.trans (congrArg some (by kernel_rfl))
 t3 := Tryz.underlying3
 a3 := Tryz.isAgg3
 z3 := Tryz.sizeOf3
 v3 := Tryz.zeroValue3
 t5 := Tryz.underlying5
 a5 := Tryz.isAgg5
 z5 := Tryz.sizeOf5
 v5 := Tryz.zeroValue5
 t9 := Tryz.underlying9
 a9 := Tryz.isAgg9
 z9 := Tryz.sizeOf9
 v9 := Tryz.zeroValue9 }
open Go.RowKit in
theorem Tryz.strings_IndexByte (s : ByteArray) (c : Int) (w : World) :
 Calls Tryz.prog 126 #[.string s, .int .u8 c] w fun e w' => e = .returned (.int .i64 (Lib.indexByte s.data.toList c.toNat.toUInt8)) ∧ w' = w := Any.strings_IndexByte Tryz.lays137 s c w
def Tryz.lays121_ren : Go.Shelf.Ren := ⟨fun | 121 => 79 | 214 => 133 | n => n, fun | 4 => 4 | 9 => 9 | n => n, fun | n => n⟩
theorem Tryz.lays121 : Go.Proofs.Lays.n121 Tryz.prog Tryz.lays121_ren := {
 mixed := by kernel_rfl
 f121 := Tryz.func79.trans (congrArg some (by kernel_rfl))
 f214 := Tryz.func133.trans (congrArg some (by kernel_rfl))
 t4 := Tryz.underlying4
 a4 := Tryz.isAgg4
 z4 := Tryz.sizeOf4
 v4 := Tryz.zeroValue4
 t9 := Tryz.underlying9
 a9 := Tryz.isAgg9
 z9 := Tryz.sizeOf9
 v9 := Tryz.zeroValue9 }
open Go.RowKit in
theorem Tryz.strconv_FormatBool (b : Bool) (w : World) :
 Calls Tryz.prog 79 #[.bool b] w fun e w' => e = .returned (.string ⟨(Lib.formatBool b).toArray⟩) ∧ w' = w := Any.strconv_FormatBool Tryz.lays121 b w
open Go.RowKit in
theorem Tryz.Builder_String_any_k (B b : Nat) (l : List UInt8) (w : World) (h : Lib.IsBuilderF 219 5 B b (Lib.byteCells l) w) (hBw : B ≤ w.heap.size) :
 Calls Tryz.prog 136 #[.pointer (some ⟨b, 0, none⟩)] w fun e w' => e = .returned (.string ⟨l.toArray⟩) ∧ (Lib.IsBuilderF 219 5 B b (Lib.byteCells l) w' ∧ Below B w w' ∧ Lib.OthersKept 5 (some b) w w') := Any.Builder_String_any_k Tryz.lays169 Tryz.Builder_Extra_169 B b l w h hBw
def Tryz.laysM171_ren : Go.Shelf.Ren := ⟨fun | 171 => 43 | 243 => 78 | 246 => 132 | 283 => 183 | 284 => 184 | 285 => 185 | 286 => 186 | 129 => 220 | 317 => 219 | 318 => 221 | 319 => 222 | 320 => 223 | 337 => 243 | 338 => 244 | n => n, fun | 3 => 3 | 9 => 9 | 2 => 2 | 4 => 4 | 171 => 265 | 0 => 0 | 53 => 60 | 37 => 63 | 5 => 5 | 173 => 268 | 212 => 312 | 51 => 227 | 20 => 20 | 213 => 313 | 46 => 156 | 232 => 360 | 233 => 361 | n => n, fun | 17 => 3 | 18 => 4 | 19 => 5 | n => n⟩
theorem Tryz.laysM171 : Go.Proofs.LaysM.n171 Tryz.prog Tryz.laysM171_ren := {
 mixed := by kernel_rfl
 f129 := Tryz.func220.trans (congrArg some (by kernel_rfl))
 f171 := Tryz.func43.trans (congrArg some (by kernel_rfl))
 f243 := Tryz.func78.trans (congrArg some (by kernel_rfl))
 f246 := Tryz.func132.trans (congrArg some (by kernel_rfl))
 f283 := Tryz.func183.trans (congrArg some (by kernel_rfl))
 f284 := Tryz.func184.trans (congrArg some (by kernel_rfl))
 f285 := Tryz.func185.trans (congrArg some (by kernel_rfl))
 f286 := Tryz.func186.trans (congrArg some (by kernel_rfl))
 f317 := Tryz.func219.trans (congrArg some (by kernel_rfl))
 f318 := Tryz.func221.trans (congrArg some (by kernel_rfl))
 f319 := Tryz.func222.trans (congrArg some (by kernel_rfl))
 f320 := Tryz.func223.trans (congrArg some (by kernel_rfl))
 f337 := Tryz.func243.trans (congrArg some (by kernel_rfl))
 f338 := Tryz.func244.trans (congrArg some (by kernel_rfl))
 t0 := Tryz.underlying0
 a0 := Tryz.isAgg0
 z0 := Tryz.sizeOf0
 v0 := Tryz.zeroValue0
 t2 := Tryz.underlying2
 a2 := Tryz.isAgg2
 z2 := Tryz.sizeOf2
 v2 := Tryz.zeroValue2
 t3 := Tryz.underlying3
 a3 := Tryz.isAgg3
 z3 := Tryz.sizeOf3
 v3 := Tryz.zeroValue3
 t4 := Tryz.underlying4
 a4 := Tryz.isAgg4
 z4 := Tryz.sizeOf4
 v4 := Tryz.zeroValue4
 t5 := Tryz.underlying5
 a5 := Tryz.isAgg5
 z5 := Tryz.sizeOf5
 v5 := Tryz.zeroValue5
 t9 := Tryz.underlying9
 a9 := Tryz.isAgg9
 z9 := Tryz.sizeOf9
 v9 := Tryz.zeroValue9
 t20 := Tryz.underlying20
 a20 := Tryz.isAgg20
 z20 := Tryz.sizeOf20
 v20 := Tryz.zeroValue20
 t37 := Tryz.underlying63
 a37 := Tryz.isAgg63
 z37 := Tryz.sizeOf63
 v37 := Tryz.zeroValue63
 t46 := Tryz.underlying156
 a46 := Tryz.isAgg156
 z46 := Tryz.sizeOf156
 v46 := Tryz.zeroValue156
 t51 := Tryz.underlying227
 a51 := Tryz.isAgg227
 z51 := Tryz.sizeOf227
 v51 := Tryz.zeroValue227
 t53 := Tryz.underlying60
 a53 := Tryz.isAgg60
 z53 := Tryz.sizeOf60
 v53 := Tryz.zeroValue60
 t171 := Tryz.underlying265
 a171 := Tryz.isAgg265
 z171 := Tryz.sizeOf265
 v171 := Tryz.zeroValue265
 t173 := Tryz.underlying268
 a173 := Tryz.isAgg268
 z173 := Tryz.sizeOf268
 v173 := Tryz.zeroValue268
 t212 := Tryz.underlying312
 a212 := Tryz.isAgg312
 z212 := Tryz.sizeOf312
 v212 := Tryz.zeroValue312
 t213 := Tryz.underlying313
 a213 := Tryz.isAgg313
 z213 := Tryz.sizeOf313
 t232 := Tryz.underlying360
 a232 := Tryz.isAgg360
 z232 := Tryz.sizeOf360
 v232 := Tryz.zeroValue360
 t233 := Tryz.underlying361
 a233 := Tryz.isAgg361
 z233 := Tryz.sizeOf361
 v233 := Tryz.zeroValue361
 g17 := by kernel_rfl
 g18 := by kernel_rfl
 g19 := by kernel_rfl
 i0 := by kernel_rfl
 i2 := by kernel_rfl
 i3 := by kernel_rfl
 i4 := by kernel_rfl
 i5 := by kernel_rfl
 i9 := by kernel_rfl
 i20 := by kernel_rfl
 i37 := by kernel_rfl
 i46 := by kernel_rfl
 i51 := by kernel_rfl
 i53 := by kernel_rfl
 i171 := by kernel_rfl
 i173 := by kernel_rfl
 i212 := by kernel_rfl
 i232 := by kernel_rfl
 i233 := by kernel_rfl
 m17 := by kernel_rfl
 m18 := by kernel_rfl
 m19 := by kernel_rfl }
open Go.RowKit Go.Sort Go.Lib in
theorem Tryz.strconv_Itoa (n : Int) (h0 : -9223372036854775808 ≤ n) (h1 : n ≤ 9223372036854775807) (w : World) (htab : Lib.TabIs Tryz.prog w "internal/strconv.uint64pow10" .u64 Lib.pow10Tab) :
 Calls Tryz.prog 43 #[.int .i64 n] w fun e w' => e = .returned (.string ⟨(Lib.itoa n).toArray⟩) ∧ ∃ k os, w' = grow (w.drewN k) os := Any.strconv_Itoa Tryz.laysM171 n h0 h1 w htab
def Tryz.laysC172_ren : Go.Shelf.Ren := ⟨fun | 172 => 36 | 244 => 74 | 245 => 75 | 247 => 127 | 279 => 128 | 280 => 129 | 281 => 130 | 282 => 131 | 287 => 180 | 316 => 181 | 171 => 43 | 205 => 182 | 321 => 217 | 322 => 218 | 243 => 78 | 246 => 132 | 283 => 183 | 284 => 184 | 285 => 185 | 286 => 186 | 129 => 220 | 317 => 219 | 318 => 221 | 319 => 222 | 320 => 223 | 337 => 243 | 338 => 244 | n => n, fun | 9 => 9 | 3 => 3 | 75 => 100 | 76 => 101 | 4 => 4 | 5 => 5 | 167 => 210 | 37 => 63 | 0 => 0 | 85 => 211 | 2 => 2 | 168 => 213 | 53 => 60 | 175 => 260 | 46 => 156 | 210 => 263 | 127 => 270 | 145 => 310 | 143 => 308 | 21 => 21 | 171 => 265 | 173 => 268 | 212 => 312 | 51 => 227 | 20 => 20 | 213 => 313 | 232 => 360 | 233 => 361 | 80 => 221 | n => n, fun | 15 => 1 | 16 => 2 | 17 => 3 | 18 => 4 | 19 => 5 | n => n⟩
theorem Tryz.laysC172 : Go.Proofs.LaysC.n172 Tryz.prog Tryz.laysC172_ren := {
 mixed := by kernel_rfl
 f129 := Tryz.func220.trans (congrArg some (by kernel_rfl))
 f171 := Tryz.func43.trans (congrArg some (by kernel_rfl))
 f172 := Tryz.func36.trans (congrArg some (by kernel_rfl))
 f205 := Tryz.func182.trans (congrArg some (by kernel_rfl))
 f243 := Tryz.func78.trans (congrArg some (by kernel_rfl))
 f244 := Tryz.func74.trans (congrArg some (by kernel_rfl))
 f245 := Tryz.func75.trans (congrArg some (by kernel_rfl))
 f246 := Tryz.func132.trans (congrArg some (by kernel_rfl))
 f247 := Tryz.func127.trans (congrArg some (by kernel_rfl))
 f279 := Tryz.func128.trans (congrArg some (by kernel_rfl))
 f280 := Tryz.func129.trans (congrArg some (by kernel_rfl))
 f281 := Tryz.func130.trans (congrArg some (by kernel_rfl))
 f282 := Tryz.func131.trans (congrArg some (by kernel_rfl))
 f283 := Tryz.func183.trans (congrArg some (by kernel_rfl))
 f284 := Tryz.func184.trans (congrArg some (by kernel_rfl))
 f285 := Tryz.func185.trans (congrArg some (by kernel_rfl))
 f286 := Tryz.func186.trans (congrArg some (by kernel_rfl))
 f287 := Tryz.func180.trans (congrArg some (by kernel_rfl))
 f316 := Tryz.func181.trans (congrArg some (by kernel_rfl))
 f317 := Tryz.func219.trans (congrArg some (by kernel_rfl))
 f318 := Tryz.func221.trans (congrArg some (by kernel_rfl))
 f319 := Tryz.func222.trans (congrArg some (by kernel_rfl))
 f320 := Tryz.func223.trans (congrArg some (by kernel_rfl))
 f321 := Tryz.func217.trans (congrArg some (by kernel_rfl))
 f322 := Tryz.func218.trans (congrArg some (by kernel_rfl))
 f337 := Tryz.func243.trans (congrArg some (by kernel_rfl))
 f338 := Tryz.func244.trans (congrArg some (by kernel_rfl))
 t0 := Tryz.underlying0
 a0 := Tryz.isAgg0
 z0 := Tryz.sizeOf0
 v0 := Tryz.zeroValue0
 t2 := Tryz.underlying2
 a2 := Tryz.isAgg2
 z2 := Tryz.sizeOf2
 v2 := Tryz.zeroValue2
 t3 := Tryz.underlying3
 a3 := Tryz.isAgg3
 z3 := Tryz.sizeOf3
 v3 := Tryz.zeroValue3
 t4 := Tryz.underlying4
 a4 := Tryz.isAgg4
 z4 := Tryz.sizeOf4
 v4 := Tryz.zeroValue4
 t5 := Tryz.underlying5
 a5 := Tryz.isAgg5
 z5 := Tryz.sizeOf5
 v5 := Tryz.zeroValue5
 t9 := Tryz.underlying9
 a9 := Tryz.isAgg9
 z9 := Tryz.sizeOf9
 v9 := Tryz.zeroValue9
 t20 := Tryz.underlying20
 a20 := Tryz.isAgg20
 z20 := Tryz.sizeOf20
 v20 := Tryz.zeroValue20
 t21 := Tryz.underlying21
 a21 := Tryz.isAgg21
 z21 := Tryz.sizeOf21
 v21 := Tryz.zeroValue21
 t37 := Tryz.underlying63
 a37 := Tryz.isAgg63
 z37 := Tryz.sizeOf63
 v37 := Tryz.zeroValue63
 t46 := Tryz.underlying156
 a46 := Tryz.isAgg156
 z46 := Tryz.sizeOf156
 v46 := Tryz.zeroValue156
 t51 := Tryz.underlying227
 a51 := Tryz.isAgg227
 z51 := Tryz.sizeOf227
 v51 := Tryz.zeroValue227
 t53 := Tryz.underlying60
 a53 := Tryz.isAgg60
 z53 := Tryz.sizeOf60
 v53 := Tryz.zeroValue60
 t75 := Tryz.underlying100
 a75 := Tryz.isAgg100
 z75 := Tryz.sizeOf100
 v75 := Tryz.zeroValue100
 t76 := Tryz.underlying101
 a76 := Tryz.isAgg101
 z76 := Tryz.sizeOf101
 v76 := Tryz.zeroValue101
 t85 := Tryz.underlying211
 a85 := Tryz.isAgg211
 z85 := Tryz.sizeOf211
 v85 := Tryz.zeroValue211
 t127 := Tryz.underlying270
 a127 := Tryz.isAgg270
 z127 := Tryz.sizeOf270
 v127 := Tryz.zeroValue270
 t143 := Tryz.underlying308
 a143 := Tryz.isAgg308
 z143 := Tryz.sizeOf308
 v143 := Tryz.zeroValue308
 t145 := Tryz.underlying310
 a145 := Tryz.isAgg310
 z145 := Tryz.sizeOf310
 v145 := Tryz.zeroValue310
 t167 := Tryz.underlying210
 a167 := Tryz.isAgg210
 z167 := Tryz.sizeOf210
 v167 := Tryz.zeroValue210
 t168 := Tryz.underlying213
 a168 := Tryz.isAgg213
 z168 := Tryz.sizeOf213
 v168 := Tryz.zeroValue213
 t171 := Tryz.underlying265
 a171 := Tryz.isAgg265
 z171 := Tryz.sizeOf265
 v171 := Tryz.zeroValue265
 t173 := Tryz.underlying268
 a173 := Tryz.isAgg268
 z173 := Tryz.sizeOf268
 v173 := Tryz.zeroValue268
 t175 := Tryz.underlying260
 a175 := Tryz.isAgg260
 z175 := Tryz.sizeOf260
 v175 := Tryz.zeroValue260
 t210 := Tryz.underlying263
 a210 := Tryz.isAgg263
 z210 := Tryz.sizeOf263
 v210 := Tryz.zeroValue263
 t212 := Tryz.underlying312
 a212 := Tryz.isAgg312
 z212 := Tryz.sizeOf312
 v212 := Tryz.zeroValue312
 t213 := Tryz.underlying313
 a213 := Tryz.isAgg313
 z213 := Tryz.sizeOf313
 t232 := Tryz.underlying360
 a232 := Tryz.isAgg360
 z232 := Tryz.sizeOf360
 v232 := Tryz.zeroValue360
 t233 := Tryz.underlying361
 a233 := Tryz.isAgg361
 z233 := Tryz.sizeOf361
 v233 := Tryz.zeroValue361
 g15 := by kernel_rfl
 g16 := by kernel_rfl
 g17 := by kernel_rfl
 g18 := by kernel_rfl
 g19 := by kernel_rfl
 t80 := Tryz.underlying221
 a80 := Tryz.isAgg221
 z80 := Tryz.sizeOf221
 v80 := Tryz.zeroValue221
 i0 := by kernel_rfl
 i2 := by kernel_rfl
 i3 := by kernel_rfl
 i4 := by kernel_rfl
 i5 := by kernel_rfl
 i9 := by kernel_rfl
 i20 := by kernel_rfl
 i21 := by kernel_rfl
 i37 := by kernel_rfl
 i46 := by kernel_rfl
 i51 := by kernel_rfl
 i53 := by kernel_rfl
 i75 := by kernel_rfl
 i76 := by kernel_rfl
 i80 := by kernel_rfl
 i85 := by kernel_rfl
 i127 := by kernel_rfl
 i143 := by kernel_rfl
 i145 := by kernel_rfl
 i167 := by kernel_rfl
 i168 := by kernel_rfl
 i171 := by kernel_rfl
 i173 := by kernel_rfl
 i175 := by kernel_rfl
 i210 := by kernel_rfl
 i212 := by kernel_rfl
 i232 := by kernel_rfl
 i233 := by kernel_rfl
 m15 := by kernel_rfl
 m16 := by kernel_rfl
 m17 := by kernel_rfl
 m18 := by kernel_rfl
 m19 := by kernel_rfl
 c0 := by kernel_rfl
 c2 := by kernel_rfl
 c3 := by kernel_rfl
 c4 := by kernel_rfl
 c5 := by kernel_rfl
 c9 := by kernel_rfl
 c20 := by kernel_rfl
 c21 := by kernel_rfl
 c37 := by kernel_rfl
 c46 := by kernel_rfl
 c51 := by kernel_rfl
 c53 := by kernel_rfl
 c75 := by kernel_rfl
 c76 := by kernel_rfl
 c80 := by kernel_rfl
 c85 := by kernel_rfl
 c127 := by kernel_rfl
 c143 := by kernel_rfl
 c145 := by kernel_rfl
 c167 := by kernel_rfl
 c168 := by kernel_rfl
 c171 := by kernel_rfl
 c173 := by kernel_rfl
 c175 := by kernel_rfl
 c210 := by kernel_rfl
 c212 := by kernel_rfl
 c213 := by kernel_rfl
 c232 := by kernel_rfl
 c233 := by kernel_rfl }
open Go.RowKit in
theorem Tryz.strconv_Atoi_ok (s : ByteArray) (hmax : s.size ≤ 9223372036854775806) (v : Int) (h : Lib.atoiAll s.data.toList = .ok v) (w : World) :
 Calls Tryz.prog 36 #[.string s] w fun e w' => e = .returned (.tuple #[.int .i64 v, .nilIface]) ∧ (w' = w ∨ ∃ t, w' = Lib.bytesWorld w 5 t) := Any.strconv_Atoi_ok Tryz.laysC172 s hmax v h w
open Go.RowKit in
theorem Tryz.strconv_Atoi_range (s : ByteArray) (hlim : s.size ≤ 281474976710656) (h : Lib.atoiAll s.data.toList = .range) (ev : Value) (w : World) (hv : w.cell? ⟨2, 0, none⟩ = some ev) (hev : ev = .nilIface ∨ ∃ te pe, ev = .iface te pe) :
 Calls Tryz.prog 36 #[.string s] w fun e w' => ∃ N, e = .returned (.tuple #[.int .i64 (Lib.atoiSat s.data.toList), .iface 213 (.pointer (some ⟨N, 0, none⟩))]) ∧ w.heap.size ≤ N ∧ w'.heap[N]? = some (.cells #[.string ⟨#[65, 116, 111, 105]⟩, .string s, ev] 263 (0, 0)) ∧ Below w.heap.size w w' := Any.strconv_Atoi_range Tryz.laysC172 s hlim h ev w hv hev
def Tryz.lays145_ren : Go.Shelf.Ren := ⟨fun | 145 => 32 | 220 => 72 | 219 => 121 | 217 => 172 | 225 => 173 | 224 => 174 | 267 => 175 | 266 => 214 | 314 => 215 | n => n, fun | 9 => 9 | 4 => 4 | 59 => 91 | 3 => 3 | 5 => 5 | 46 => 156 | 146 => 304 | 51 => 227 | n => n, fun | 1 => 0 | n => n⟩
theorem Tryz.lays145 : Go.Proofs.Lays.n145 Tryz.prog Tryz.lays145_ren := {
 mixed := by kernel_rfl
 f145 := Tryz.func32.trans (congrArg some (by kernel_rfl))
 f217 := Tryz.func172.trans (congrArg some (by kernel_rfl))
 f219 := Tryz.func121.trans (congrArg some (by kernel_rfl))
 f220 := Tryz.func72.trans (congrArg some (by kernel_rfl))
 f224 := Tryz.func174.trans (congrArg some (by kernel_rfl))
 f225 := Tryz.func173.trans (congrArg some (by kernel_rfl))
 f266 := Tryz.func214.trans (congrArg some (by kernel_rfl))
 f267 := Tryz.func175.trans (congrArg some (by kernel_rfl))
 f314 := Tryz.func215.trans (congrArg some (by kernel_rfl))
 t3 := Tryz.underlying3
 a3 := Tryz.isAgg3
 z3 := Tryz.sizeOf3
 v3 := Tryz.zeroValue3
 t4 := Tryz.underlying4
 a4 := Tryz.isAgg4
 z4 := Tryz.sizeOf4
 v4 := Tryz.zeroValue4
 t5 := Tryz.underlying5
 a5 := Tryz.isAgg5
 z5 := Tryz.sizeOf5
 v5 := Tryz.zeroValue5
 t9 := Tryz.underlying9
 a9 := Tryz.isAgg9
 z9 := Tryz.sizeOf9
 v9 := Tryz.zeroValue9
 t46 := Tryz.underlying156
 a46 := Tryz.isAgg156
 z46 := Tryz.sizeOf156
 v46 := Tryz.zeroValue156
 t51 := Tryz.underlying227
 a51 := Tryz.isAgg227
 z51 := Tryz.sizeOf227
 v51 := Tryz.zeroValue227
 t59 := Tryz.underlying91
 a59 := Tryz.isAgg91
 z59 := Tryz.sizeOf91
 v59 := Tryz.zeroValue91
 t146 := Tryz.underlying304
 a146 := Tryz.isAgg304
 z146 := Tryz.sizeOf304
 v146 := Tryz.zeroValue304
 g1 := by kernel_rfl }
open Go.RowKit Go.Lib in
theorem Tryz.strings_Cut (s sep : ByteArray) (m : Int) (w : World) (hs : s.size < 4294967281) (hm : w.cell? ⟨0, 0, none⟩ = some (.int .i64 m)) :
 Calls Tryz.prog 32 #[.string s, .string sep] w fun e w' => e = .returned (.tuple #[.string ⟨(Lib.cut s.data.toList sep.data.toList).1.toArray⟩, .string ⟨(Lib.cut s.data.toList sep.data.toList).2.1.toArray⟩, .bool (Lib.cut s.data.toList sep.data.toList).2.2]) ∧ ∃ n, w' = w.drewN n := Any.strings_Cut Tryz.lays145 s sep m w hs hm
def Tryz.laysM220_ren : Go.Shelf.Ren := ⟨fun | 220 => 72 | 219 => 121 | 217 => 172 | 225 => 173 | 224 => 174 | 267 => 175 | 266 => 214 | 314 => 215 | n => n, fun | 9 => 9 | 4 => 4 | 3 => 3 | 5 => 5 | 46 => 156 | 146 => 304 | 51 => 227 | n => n, fun | 1 => 0 | n => n⟩
theorem Tryz.laysM220 : Go.Proofs.LaysM.n220 Tryz.prog Tryz.laysM220_ren := {
 mixed := by kernel_rfl
 f217 := Tryz.func172.trans (congrArg some (by kernel_rfl))
 f219 := Tryz.func121.trans (congrArg some (by kernel_rfl))
 f220 := Tryz.func72.trans (congrArg some (by kernel_rfl))
 f224 := Tryz.func174.trans (congrArg some (by kernel_rfl))
 f225 := Tryz.func173.trans (congrArg some (by kernel_rfl))
 f266 := Tryz.func214.trans (congrArg some (by kernel_rfl))
 f267 := Tryz.func175.trans (congrArg some (by kernel_rfl))
 f314 := Tryz.func215.trans (congrArg some (by kernel_rfl))
 t3 := Tryz.underlying3
 a3 := Tryz.isAgg3
 z3 := Tryz.sizeOf3
 v3 := Tryz.zeroValue3
 t4 := Tryz.underlying4
 a4 := Tryz.isAgg4
 z4 := Tryz.sizeOf4
 v4 := Tryz.zeroValue4
 t5 := Tryz.underlying5
 a5 := Tryz.isAgg5
 z5 := Tryz.sizeOf5
 v5 := Tryz.zeroValue5
 t9 := Tryz.underlying9
 a9 := Tryz.isAgg9
 z9 := Tryz.sizeOf9
 v9 := Tryz.zeroValue9
 t46 := Tryz.underlying156
 a46 := Tryz.isAgg156
 z46 := Tryz.sizeOf156
 v46 := Tryz.zeroValue156
 t51 := Tryz.underlying227
 a51 := Tryz.isAgg227
 z51 := Tryz.sizeOf227
 v51 := Tryz.zeroValue227
 t146 := Tryz.underlying304
 a146 := Tryz.isAgg304
 z146 := Tryz.sizeOf304
 v146 := Tryz.zeroValue304
 g1 := by kernel_rfl
 i3 := by kernel_rfl
 i4 := by kernel_rfl
 i5 := by kernel_rfl
 i9 := by kernel_rfl
 i46 := by kernel_rfl
 i51 := by kernel_rfl
 i146 := by kernel_rfl
 m1 := by kernel_rfl
 s1_3 := fun w h => Go.Proofs.cell_of_shapedOpen_int (zero := #[.int .i64 0]) (t := 3) h (of_decide_eq_true (by kernel_rfl)) (by kernel_rfl) rfl (by kernel_rfl) (by kernel_rfl) Tryz.underlying3 }
def Tryz.lays99_ren : Go.Shelf.Ren := ⟨fun | 99 => 15 | 206 => 33 | n => n, fun | 9 => 9 | 4 => 4 | 3 => 3 | n => n, fun | n => n⟩
theorem Tryz.lays99 : Go.Proofs.Lays.n99 Tryz.prog Tryz.lays99_ren := {
 mixed := by kernel_rfl
 f99 := Tryz.func15.trans (congrArg some (by kernel_rfl))
 f206 := Tryz.func33.trans (congrArg some (by kernel_rfl))
 t3 := Tryz.underlying3
 a3 := Tryz.isAgg3
 z3 := Tryz.sizeOf3
 v3 := Tryz.zeroValue3
 t4 := Tryz.underlying4
 a4 := Tryz.isAgg4
 z4 := Tryz.sizeOf4
 v4 := Tryz.zeroValue4
 t9 := Tryz.underlying9
 a9 := Tryz.isAgg9
 z9 := Tryz.sizeOf9
 v9 := Tryz.zeroValue9 }
open Go.RowKit Go.Lib in
theorem Tryz.strings_HasPrefix (s p : ByteArray) (w : World) :
 Calls Tryz.prog 15 #[.string s, .string p] w fun e w' => e = .returned (.bool (Lib.hasPrefix s.data.toList p.data.toList)) ∧ w' = w := Any.strings_HasPrefix Tryz.lays99 s p w
def Tryz.lays109_ren : Go.Shelf.Ren := ⟨fun | 109 => 189 | n => n, fun | 31 => 22 | 9 => 9 | 3 => 3 | 0 => 0 | 4 => 4 | n => n, fun | n => n⟩
theorem Tryz.lays109 : Go.Proofs.Lays.n109 Tryz.prog Tryz.lays109_ren := {
 mixed := by kernel_rfl
 f109 := Tryz.func189.trans (congrArg some (by kernel_rfl))
 t0 := Tryz.underlying0
 a0 := Tryz.isAgg0
 z0 := Tryz.sizeOf0
 v0 := Tryz.zeroValue0
 t3 := Tryz.underlying3
 a3 := Tryz.isAgg3
 z3 := Tryz.sizeOf3
 v3 := Tryz.zeroValue3
 t4 := Tryz.underlying4
 a4 := Tryz.isAgg4
 z4 := Tryz.sizeOf4
 v4 := Tryz.zeroValue4
 t9 := Tryz.underlying9
 a9 := Tryz.isAgg9
 z9 := Tryz.sizeOf9
 v9 := Tryz.zeroValue9
 t31 := Tryz.underlying22
 a31 := Tryz.isAgg22
 z31 := Tryz.sizeOf22
 v31 := Tryz.zeroValue22 }
open Go.Lib in
theorem Tryz.slices_Index_string (b off n c : Nat) (zs : List ByteArray) (x : ByteArray) (w : World) (hz : n ≤ zs.length) (hbig : n ≤ 9223372036854775807) (hc : ∀ j, j < zs.length → w.cell? ⟨b, off + j, none⟩ = some (.string (zs.getD j ByteArray.empty))) :
 Calls Tryz.prog 189 #[.slice (some ⟨b, off, none⟩) n c, .string x] w fun e w' => e = .returned (.int .i64 (Lib.idxOfS (zs.take n) x)) ∧ w' = w := Any.slices_Index_string Tryz.lays109 b off n c zs x w hz hbig hc
end Go.Proofs
