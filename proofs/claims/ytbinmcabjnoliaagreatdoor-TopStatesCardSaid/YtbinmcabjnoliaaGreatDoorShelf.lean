/- Contracts of the library, laid. -/
import Derived.Shelf.Strings.Builder1
import Derived.Shelf.Small.Strs
import Derived.Shelf.Small.Wraps
import Derived.Shelf.Strings.BuilderF
import Derived.Shelf.Strings.BuilderK
import Derived.Shelf.Strconv.Atoi
import Derived.Shelf.Strconv.Itoa0
import Derived.Shelf.Strconv.Itoa1
import Derived.Shelf.LaysM
import Derived.Shelf.Strconv.Itoa2
import Derived.Shelf.Strconv.Itoa3
import Derived.Shelf.Strconv.AtoiErrFast
import Derived.Shelf.Strconv.ParseIntEmpty
import Derived.Shelf.Strconv.AtoiFail
import Derived.Shelf.Strconv.Clone
import Derived.Shelf.Strconv.SyntaxError
import Derived.Shelf.LaysC
import Derived.Shelf.Strconv.ToError
import Derived.Shelf.Strconv.Lower
import Derived.Shelf.Strconv.ParseUint10
import Derived.Shelf.Strconv.ParseUint10Empty
import Derived.Shelf.Strconv.ParseUint10Any
import Derived.Shelf.Strconv.ParseInt10
import Derived.Shelf.Strconv.AtoiLong
import Derived.Shelf.Strconv.AtoiInnerAll
import Derived.Shelf.Strconv.RangeError
import Derived.Shelf.Strconv.ToErrorRange
import Derived.Shelf.Strconv.AtoiAll
import Derived.Shelf.Strconv.ErrVarAll
import Derived.Shelf.Strings.Search1
import Derived.Shelf.Strings.Search2
import Derived.Shelf.Strings.Cut
import Derived.Shelf.Strings.Shaped
import Derived.Shelf.Strings.Prefix
import Derived.Shelf.Strings.BuilderCap
import Derived.Shelf.Slices.Turned
import Derived.Shelf.Bytes.SlSearch0
import Derived.Shelf.Bytes.SlEqualAll
import Derived.Shelf.Bytes.Small
import Derived.Test.YtbinmcabjnoliaaGreatDoorProg
namespace Go.Proofs
open Go.Shelf
def Tryz.lays169_ren : Go.Shelf.Ren := ⟨fun | 169 => 126 | n => n, fun | 70 => 205 | 9 => 9 | 0 => 0 | 72 => 207 | 37 => 83 | 127 => 262 | 3 => 3 | 5 => 5 | n => n, fun | n => n⟩
theorem Tryz.lays169 : Go.Proofs.Lays.n169 Tryz.prog Tryz.lays169_ren := {
 mixed := by kernel_rfl
 f169 := Tryz.func126.trans (congrArg some (by kernel_rfl))
 t0 := Tryz.underlying0
 a0 := Tryz.isAgg0
 z0 := Tryz.sizeOf0
 v0 := Tryz.zeroValue0
 t3 := Tryz.underlying3
 a3 := Tryz.isAgg3
 z3 := Tryz.sizeOf3
 v3 := Tryz.zeroValue3
 t9 := Tryz.underlying9
 a9 := Tryz.isAgg9
 z9 := Tryz.sizeOf9
 v9 := Tryz.zeroValue9
 t37 := Tryz.underlying83
 a37 := Tryz.isAgg83
 z37 := Tryz.sizeOf83
 v37 := Tryz.zeroValue83
 t70 := Tryz.underlying205
 a70 := Tryz.isAgg205
 z70 := Tryz.sizeOf205
 v70 := Tryz.zeroValue205
 t72 := Tryz.underlying207
 a72 := Tryz.isAgg207
 z72 := Tryz.sizeOf207
 v72 := Tryz.zeroValue207
 t127 := Tryz.underlying262
 a127 := Tryz.isAgg262
 z127 := Tryz.sizeOf262
 v127 := Tryz.zeroValue262 }
theorem Tryz.Builder_Extra_169 : Builder.Extra Tryz.prog Tryz.lays169_ren := {
 sizeBuilder := by kernel_rfl
 liesBuilder := by kernel_rfl
 t5 := Tryz.underlying5
 a5 := Tryz.isAgg5
 z5 := Tryz.sizeOf5
 v5 := Tryz.zeroValue5
 infoByte := by kernel_rfl
 cellsByte := by kernel_rfl
 sizeByte := by kernel_rfl
 neB5 := by decide }
def Tryz.lays137_ren : Go.Shelf.Ren := ⟨fun | 137 => 167 | 217 => 205 | 266 => 240 | n => n, fun | 9 => 9 | 5 => 5 | 3 => 3 | n => n, fun | n => n⟩
theorem Tryz.lays137 : Go.Proofs.Lays.n137 Tryz.prog Tryz.lays137_ren := {
 mixed := by kernel_rfl
 f137 := Tryz.func167.trans (congrArg some (by kernel_rfl))
 f217 := Tryz.func205.trans (congrArg some (by kernel_rfl))
 f266 := Tryz.func240.trans (congrArg some (by kernel_rfl))
 t3 := Tryz.underlying3
 a3 := Tryz.isAgg3
 z3 := Tryz.sizeOf3
 v3 := Tryz.zeroValue3
 t5 := Tryz.underlying5
 a5 := Tryz.isAgg5
 z5 := Tryz.sizeOf5
 v5 := Tryz.zeroValue5
 t9 := Tryz.underlying9
 a9 := Tryz.isAgg9
 z9 := Tryz.sizeOf9
 v9 := Tryz.zeroValue9 }
open Go.RowKit in
theorem Tryz.strings_IndexByte (s : ByteArray) (c : Int) (w : World) :
 Calls Tryz.prog 167 #[.string s, .int .u8 c] w fun e w' => e = .returned (.int .i64 (Lib.indexByte s.data.toList c.toNat.toUInt8)) ∧ w' = w := Any.strings_IndexByte Tryz.lays137 s c w
def Tryz.lays121_ren : Go.Shelf.Ren := ⟨fun | 121 => 74 | 214 => 123 | n => n, fun | 4 => 4 | 9 => 9 | n => n, fun | n => n⟩
theorem Tryz.lays121 : Go.Proofs.Lays.n121 Tryz.prog Tryz.lays121_ren := {
 mixed := by kernel_rfl
 f121 := Tryz.func74.trans (congrArg some (by kernel_rfl))
 f214 := Tryz.func123.trans (congrArg some (by kernel_rfl))
 t4 := Tryz.underlying4
 a4 := Tryz.isAgg4
 z4 := Tryz.sizeOf4
 v4 := Tryz.zeroValue4
 t9 := Tryz.underlying9
 a9 := Tryz.isAgg9
 z9 := Tryz.sizeOf9
 v9 := Tryz.zeroValue9 }
open Go.RowKit in
theorem Tryz.strconv_FormatBool (b : Bool) (w : World) :
 Calls Tryz.prog 74 #[.bool b] w fun e w' => e = .returned (.string ⟨(Lib.formatBool b).toArray⟩) ∧ w' = w := Any.strconv_FormatBool Tryz.lays121 b w
open Go.RowKit in
theorem Tryz.Builder_String_any_k (B b : Nat) (l : List UInt8) (w : World) (h : Lib.IsBuilderF 207 5 B b (Lib.byteCells l) w) (hBw : B ≤ w.heap.size) :
 Calls Tryz.prog 126 #[.pointer (some ⟨b, 0, none⟩)] w fun e w' => e = .returned (.string ⟨l.toArray⟩) ∧ (Lib.IsBuilderF 207 5 B b (Lib.byteCells l) w' ∧ Below B w w' ∧ Lib.OthersKept 5 (some b) w w') := Any.Builder_String_any_k Tryz.lays169 Tryz.Builder_Extra_169 B b l w h hBw
def Tryz.laysM171_ren : Go.Shelf.Ren := ⟨fun | 171 => 33 | 243 => 73 | 246 => 122 | 283 => 173 | 284 => 174 | 285 => 175 | 286 => 176 | 129 => 217 | 317 => 216 | 318 => 218 | 319 => 219 | 320 => 220 | 337 => 245 | 338 => 246 | n => n, fun | 3 => 3 | 9 => 9 | 2 => 2 | 4 => 4 | 171 => 257 | 0 => 0 | 53 => 67 | 37 => 83 | 5 => 5 | 173 => 260 | 212 => 306 | 51 => 215 | 20 => 20 | 213 => 307 | 46 => 155 | 232 => 361 | 233 => 362 | n => n, fun | 17 => 3 | 18 => 4 | 19 => 5 | n => n⟩
theorem Tryz.laysM171 : Go.Proofs.LaysM.n171 Tryz.prog Tryz.laysM171_ren := {
 mixed := by kernel_rfl
 f129 := Tryz.func217.trans (congrArg some (by kernel_rfl))
 f171 := Tryz.func33.trans (congrArg some (by kernel_rfl))
 f243 := Tryz.func73.trans (congrArg some (by kernel_rfl))
 f246 := Tryz.func122.trans (congrArg some (by kernel_rfl))
 f283 := Tryz.func173.trans (congrArg some (by kernel_rfl))
 f284 := Tryz.func174.trans (congrArg some (by kernel_rfl))
 f285 := Tryz.func175.trans (congrArg some (by kernel_rfl))
 f286 := Tryz.func176.trans (congrArg some (by kernel_rfl))
 f317 := Tryz.func216.trans (congrArg some (by kernel_rfl))
 f318 := Tryz.func218.trans (congrArg some (by kernel_rfl))
 f319 := Tryz.func219.trans (congrArg some (by kernel_rfl))
 f320 := Tryz.func220.trans (congrArg some (by kernel_rfl))
 f337 := Tryz.func245.trans (congrArg some (by kernel_rfl))
 f338 := Tryz.func246.trans (congrArg some (by kernel_rfl))
 t0 := Tryz.underlying0
 a0 := Tryz.isAgg0
 z0 := Tryz.sizeOf0
 v0 := Tryz.zeroValue0
 t2 := Tryz.underlying2
 a2 := Tryz.isAgg2
 z2 := Tryz.sizeOf2
 v2 := Tryz.zeroValue2
 t3 := Tryz.underlying3
 a3 := Tryz.isAgg3
 z3 := Tryz.sizeOf3
 v3 := Tryz.zeroValue3
 t4 := Tryz.underlying4
 a4 := Tryz.isAgg4
 z4 := Tryz.sizeOf4
 v4 := Tryz.zeroValue4
 t5 := Tryz.underlying5
 a5 := Tryz.isAgg5
 z5 := Tryz.sizeOf5
 v5 := Tryz.zeroValue5
 t9 := Tryz.underlying9
 a9 := Tryz.isAgg9
 z9 := Tryz.sizeOf9
 v9 := Tryz.zeroValue9
 t20 := Tryz.underlying20
 a20 := Tryz.isAgg20
 z20 := Tryz.sizeOf20
 v20 := Tryz.zeroValue20
 t37 := Tryz.underlying83
 a37 := Tryz.isAgg83
 z37 := Tryz.sizeOf83
 v37 := Tryz.zeroValue83
 t46 := Tryz.underlying155
 a46 := Tryz.isAgg155
 z46 := Tryz.sizeOf155
 v46 := Tryz.zeroValue155
 t51 := Tryz.underlying215
 a51 := Tryz.isAgg215
 z51 := Tryz.sizeOf215
 v51 := Tryz.zeroValue215
 t53 := Tryz.underlying67
 a53 := Tryz.isAgg67
 z53 := Tryz.sizeOf67
 v53 := Tryz.zeroValue67
 t171 := Tryz.underlying257
 a171 := Tryz.isAgg257
 z171 := Tryz.sizeOf257
 v171 := Tryz.zeroValue257
 t173 := Tryz.underlying260
 a173 := Tryz.isAgg260
 z173 := Tryz.sizeOf260
 v173 := Tryz.zeroValue260
 t212 := Tryz.underlying306
 a212 := Tryz.isAgg306
 z212 := Tryz.sizeOf306
 v212 := Tryz.zeroValue306
 t213 := Tryz.underlying307
 a213 := Tryz.isAgg307
 z213 := Tryz.sizeOf307
 t232 := Tryz.underlying361
 a232 := Tryz.isAgg361
 z232 := Tryz.sizeOf361
 v232 := Tryz.zeroValue361
 t233 := Tryz.underlying362
 a233 := Tryz.isAgg362
 z233 := Tryz.sizeOf362
 v233 := Tryz.zeroValue362
 g17 := by kernel_rfl
 g18 := by kernel_rfl
 g19 := by kernel_rfl
 i0 := by kernel_rfl
 i2 := by kernel_rfl
 i3 := by kernel_rfl
 i4 := by kernel_rfl
 i5 := by kernel_rfl
 i9 := by kernel_rfl
 i20 := by kernel_rfl
 i37 := by kernel_rfl
 i46 := by kernel_rfl
 i51 := by kernel_rfl
 i53 := by kernel_rfl
 i171 := by kernel_rfl
 i173 := by kernel_rfl
 i212 := by kernel_rfl
 i232 := by kernel_rfl
 i233 := by kernel_rfl
 m17 := by kernel_rfl
 m18 := by kernel_rfl
 m19 := by kernel_rfl }
open Go.RowKit Go.Sort Go.Lib in
theorem Tryz.strconv_Itoa (n : Int) (h0 : -9223372036854775808 ≤ n) (h1 : n ≤ 9223372036854775807) (w : World) (htab : Lib.TabIs Tryz.prog w "internal/strconv.uint64pow10" .u64 Lib.pow10Tab) :
 Calls Tryz.prog 33 #[.int .i64 n] w fun e w' => e = .returned (.string ⟨(Lib.itoa n).toArray⟩) ∧ ∃ k os, w' = grow (w.drewN k) os := Any.strconv_Itoa Tryz.laysM171 n h0 h1 w htab
def Tryz.laysC172_ren : Go.Shelf.Ren := ⟨fun | 172 => 67 | 244 => 118 | 245 => 119 | 247 => 168 | 279 => 169 | 280 => 170 | 281 => 171 | 282 => 172 | 287 => 213 | 316 => 214 | 171 => 33 | 205 => 215 | 321 => 243 | 322 => 244 | 243 => 73 | 246 => 122 | 283 => 173 | 284 => 174 | 285 => 175 | 286 => 176 | 129 => 217 | 317 => 216 | 318 => 218 | 319 => 219 | 320 => 220 | 337 => 245 | 338 => 246 | n => n, fun | 9 => 9 | 3 => 3 | 75 => 148 | 76 => 149 | 4 => 4 | 5 => 5 | 167 => 251 | 37 => 83 | 0 => 0 | 85 => 252 | 2 => 2 | 168 => 254 | 53 => 67 | 175 => 300 | 46 => 155 | 210 => 303 | 127 => 262 | 145 => 338 | 143 => 336 | 21 => 21 | 171 => 257 | 173 => 260 | 212 => 306 | 51 => 215 | 20 => 20 | 213 => 307 | 232 => 361 | 233 => 362 | 80 => 209 | n => n, fun | 15 => 1 | 16 => 2 | 17 => 3 | 18 => 4 | 19 => 5 | n => n⟩
theorem Tryz.laysC172 : Go.Proofs.LaysC.n172 Tryz.prog Tryz.laysC172_ren := {
 mixed := by kernel_rfl
 f129 := Tryz.func217.trans (congrArg some (by kernel_rfl))
 f171 := Tryz.func33.trans (congrArg some (by kernel_rfl))
 f172 := Tryz.func67.trans (congrArg some (by kernel_rfl))
 f205 := Tryz.func215.trans (congrArg some (by kernel_rfl))
 f243 := Tryz.func73.trans (congrArg some (by kernel_rfl))
 f244 := Tryz.func118.trans (congrArg some (by kernel_rfl))
 f245 := Tryz.func119.trans (congrArg some (by kernel_rfl))
 f246 := Tryz.func122.trans (congrArg some (by kernel_rfl))
 f247 := Tryz.func168.trans (congrArg some (by kernel_rfl))
 f279 := Tryz.func169.trans (congrArg some (by kernel_rfl))
 f280 := Tryz.func170.trans (congrArg some (by kernel_rfl))
 f281 := Tryz.func171.trans (congrArg some (by kernel_rfl))
 f282 := Tryz.func172.trans (congrArg some (by kernel_rfl))
 f283 := Tryz.func173.trans (congrArg some (by kernel_rfl))
 f284 := Tryz.func174.trans (congrArg some (by kernel_rfl))
 f285 := Tryz.func175.trans (congrArg some (by kernel_rfl))
 f286 := Tryz.func176.trans (congrArg some (by kernel_rfl))
 f287 := Tryz.func213.trans (congrArg some (by kernel_rfl))
 f316 := Tryz.func214.trans (congrArg some (by kernel_rfl))
 f317 := Tryz.func216.trans (congrArg some (by kernel_rfl))
 f318 := Tryz.func218.trans (congrArg some (by kernel_rfl))
 f319 := Tryz.func219.trans (congrArg some (by kernel_rfl))
 f320 := Tryz.func220.trans (congrArg some (by kernel_rfl))
 f321 := Tryz.func243.trans (congrArg some (by kernel_rfl))
 f322 := Tryz.func244.trans (congrArg some (by kernel_rfl))
 f337 := Tryz.func245.trans (congrArg some (by kernel_rfl))
 f338 := Tryz.func246.trans (congrArg some (by kernel_rfl))
 t0 := Tryz.underlying0
 a0 := Tryz.isAgg0
 z0 := Tryz.sizeOf0
 v0 := Tryz.zeroValue0
 t2 := Tryz.underlying2
 a2 := Tryz.isAgg2
 z2 := Tryz.sizeOf2
 v2 := Tryz.zeroValue2
 t3 := Tryz.underlying3
 a3 := Tryz.isAgg3
 z3 := Tryz.sizeOf3
 v3 := Tryz.zeroValue3
 t4 := Tryz.underlying4
 a4 := Tryz.isAgg4
 z4 := Tryz.sizeOf4
 v4 := Tryz.zeroValue4
 t5 := Tryz.underlying5
 a5 := Tryz.isAgg5
 z5 := Tryz.sizeOf5
 v5 := Tryz.zeroValue5
 t9 := Tryz.underlying9
 a9 := Tryz.isAgg9
 z9 := Tryz.sizeOf9
 v9 := Tryz.zeroValue9
 t20 := Tryz.underlying20
 a20 := Tryz.isAgg20
 z20 := Tryz.sizeOf20
 v20 := Tryz.zeroValue20
 t21 := Tryz.underlying21
 a21 := Tryz.isAgg21
 z21 := Tryz.sizeOf21
 v21 := Tryz.zeroValue21
 t37 := Tryz.underlying83
 a37 := Tryz.isAgg83
 z37 := Tryz.sizeOf83
 v37 := Tryz.zeroValue83
 t46 := Tryz.underlying155
 a46 := Tryz.isAgg155
 z46 := Tryz.sizeOf155
 v46 := Tryz.zeroValue155
 t51 := Tryz.underlying215
 a51 := Tryz.isAgg215
 z51 := Tryz.sizeOf215
 v51 := Tryz.zeroValue215
 t53 := Tryz.underlying67
 a53 := Tryz.isAgg67
 z53 := Tryz.sizeOf67
 v53 := Tryz.zeroValue67
 t75 := Tryz.underlying148
 a75 := Tryz.isAgg148
 z75 := Tryz.sizeOf148
 v75 := Tryz.zeroValue148
 t76 := Tryz.underlying149
 a76 := Tryz.isAgg149
 z76 := Tryz.sizeOf149
 v76 := Tryz.zeroValue149
 t85 := Tryz.underlying252
 a85 := Tryz.isAgg252
 z85 := Tryz.sizeOf252
 v85 := Tryz.zeroValue252
 t127 := Tryz.underlying262
 a127 := Tryz.isAgg262
 z127 := Tryz.sizeOf262
 v127 := Tryz.zeroValue262
 t143 := Tryz.underlying336
 a143 := Tryz.isAgg336
 z143 := Tryz.sizeOf336
 v143 := Tryz.zeroValue336
 t145 := Tryz.underlying338
 a145 := Tryz.isAgg338
 z145 := Tryz.sizeOf338
 v145 := Tryz.zeroValue338
 t167 := Tryz.underlying251
 a167 := Tryz.isAgg251
 z167 := Tryz.sizeOf251
 v167 := Tryz.zeroValue251
 t168 := Tryz.underlying254
 a168 := Tryz.isAgg254
 z168 := Tryz.sizeOf254
 v168 := Tryz.zeroValue254
 t171 := Tryz.underlying257
 a171 := Tryz.isAgg257
 z171 := Tryz.sizeOf257
 v171 := Tryz.zeroValue257
 t173 := Tryz.underlying260
 a173 := Tryz.isAgg260
 z173 := Tryz.sizeOf260
 v173 := Tryz.zeroValue260
 t175 := Tryz.underlying300
 a175 := Tryz.isAgg300
 z175 := Tryz.sizeOf300
 v175 := Tryz.zeroValue300
 t210 := Tryz.underlying303
 a210 := Tryz.isAgg303
 z210 := Tryz.sizeOf303
 v210 := Tryz.zeroValue303
 t212 := Tryz.underlying306
 a212 := Tryz.isAgg306
 z212 := Tryz.sizeOf306
 v212 := Tryz.zeroValue306
 t213 := Tryz.underlying307
 a213 := Tryz.isAgg307
 z213 := Tryz.sizeOf307
 t232 := Tryz.underlying361
 a232 := Tryz.isAgg361
 z232 := Tryz.sizeOf361
 v232 := Tryz.zeroValue361
 t233 := Tryz.underlying362
 a233 := Tryz.isAgg362
 z233 := Tryz.sizeOf362
 v233 := Tryz.zeroValue362
 g15 := by kernel_rfl
 g16 := by kernel_rfl
 g17 := by kernel_rfl
 g18 := by kernel_rfl
 g19 := by kernel_rfl
 t80 := Tryz.underlying209
 a80 := Tryz.isAgg209
 z80 := Tryz.sizeOf209
 v80 := Tryz.zeroValue209
 i0 := by kernel_rfl
 i2 := by kernel_rfl
 i3 := by kernel_rfl
 i4 := by kernel_rfl
 i5 := by kernel_rfl
 i9 := by kernel_rfl
 i20 := by kernel_rfl
 i21 := by kernel_rfl
 i37 := by kernel_rfl
 i46 := by kernel_rfl
 i51 := by kernel_rfl
 i53 := by kernel_rfl
 i75 := by kernel_rfl
 i76 := by kernel_rfl
 i80 := by kernel_rfl
 i85 := by kernel_rfl
 i127 := by kernel_rfl
 i143 := by kernel_rfl
 i145 := by kernel_rfl
 i167 := by kernel_rfl
 i168 := by kernel_rfl
 i171 := by kernel_rfl
 i173 := by kernel_rfl
 i175 := by kernel_rfl
 i210 := by kernel_rfl
 i212 := by kernel_rfl
 i232 := by kernel_rfl
 i233 := by kernel_rfl
 m15 := by kernel_rfl
 m16 := by kernel_rfl
 m17 := by kernel_rfl
 m18 := by kernel_rfl
 m19 := by kernel_rfl
 c0 := by kernel_rfl
 c2 := by kernel_rfl
 c3 := by kernel_rfl
 c4 := by kernel_rfl
 c5 := by kernel_rfl
 c9 := by kernel_rfl
 c20 := by kernel_rfl
 c21 := by kernel_rfl
 c37 := by kernel_rfl
 c46 := by kernel_rfl
 c51 := by kernel_rfl
 c53 := by kernel_rfl
 c75 := by kernel_rfl
 c76 := by kernel_rfl
 c80 := by kernel_rfl
 c85 := by kernel_rfl
 c127 := by kernel_rfl
 c143 := by kernel_rfl
 c145 := by kernel_rfl
 c167 := by kernel_rfl
 c168 := by kernel_rfl
 c171 := by kernel_rfl
 c173 := by kernel_rfl
 c175 := by kernel_rfl
 c210 := by kernel_rfl
 c212 := by kernel_rfl
 c213 := by kernel_rfl
 c232 := by kernel_rfl
 c233 := by kernel_rfl }
open Go.RowKit in
theorem Tryz.strconv_Atoi_ok (s : ByteArray) (hmax : s.size ≤ 9223372036854775806) (v : Int) (h : Lib.atoiAll s.data.toList = .ok v) (w : World) :
 Calls Tryz.prog 67 #[.string s] w fun e w' => e = .returned (.tuple #[.int .i64 v, .nilIface]) ∧ (w' = w ∨ ∃ t, w' = Lib.bytesWorld w 5 t) := Any.strconv_Atoi_ok Tryz.laysC172 s hmax v h w
open Go.RowKit in
theorem Tryz.strconv_Atoi_range (s : ByteArray) (hlim : s.size ≤ 281474976710656) (h : Lib.atoiAll s.data.toList = .range) (ev : Value) (w : World) (hv : w.cell? ⟨2, 0, none⟩ = some ev) (hev : ev = .nilIface ∨ ∃ te pe, ev = .iface te pe) :
 Calls Tryz.prog 67 #[.string s] w fun e w' => ∃ N, e = .returned (.tuple #[.int .i64 (Lib.atoiSat s.data.toList), .iface 254 (.pointer (some ⟨N, 0, none⟩))]) ∧ w.heap.size ≤ N ∧ w'.heap[N]? = some (.cells #[.string ⟨#[65, 116, 111, 105]⟩, .string s, ev] 303 (0, 0)) ∧ Below w.heap.size w w' := Any.strconv_Atoi_range Tryz.laysC172 s hlim h ev w hv hev
def Tryz.lays145_ren : Go.Shelf.Ren := ⟨fun | 145 => 63 | 220 => 116 | 219 => 162 | 217 => 205 | 225 => 206 | 224 => 207 | 267 => 208 | 266 => 240 | 314 => 241 | n => n, fun | 9 => 9 | 4 => 4 | 59 => 140 | 3 => 3 | 5 => 5 | 46 => 155 | 146 => 332 | 51 => 215 | n => n, fun | 1 => 0 | n => n⟩
theorem Tryz.lays145 : Go.Proofs.Lays.n145 Tryz.prog Tryz.lays145_ren := {
 mixed := by kernel_rfl
 f145 := Tryz.func63.trans (congrArg some (by kernel_rfl))
 f217 := Tryz.func205.trans (congrArg some (by kernel_rfl))
 f219 := Tryz.func162.trans (congrArg some (by kernel_rfl))
 f220 := Tryz.func116.trans (congrArg some (by kernel_rfl))
 f224 := Tryz.func207.trans (congrArg some (by kernel_rfl))
 f225 := Tryz.func206.trans (congrArg some (by kernel_rfl))
 f266 := Tryz.func240.trans (congrArg some (by kernel_rfl))
 f267 := Tryz.func208.trans (congrArg some (by kernel_rfl))
 f314 := Tryz.func241.trans (congrArg some (by kernel_rfl))
 t3 := Tryz.underlying3
 a3 := Tryz.isAgg3
 z3 := Tryz.sizeOf3
 v3 := Tryz.zeroValue3
 t4 := Tryz.underlying4
 a4 := Tryz.isAgg4
 z4 := Tryz.sizeOf4
 v4 := Tryz.zeroValue4
 t5 := Tryz.underlying5
 a5 := Tryz.isAgg5
 z5 := Tryz.sizeOf5
 v5 := Tryz.zeroValue5
 t9 := Tryz.underlying9
 a9 := Tryz.isAgg9
 z9 := Tryz.sizeOf9
 v9 := Tryz.zeroValue9
 t46 := Tryz.underlying155
 a46 := Tryz.isAgg155
 z46 := Tryz.sizeOf155
 v46 := Tryz.zeroValue155
 t51 := Tryz.underlying215
 a51 := Tryz.isAgg215
 z51 := Tryz.sizeOf215
 v51 := Tryz.zeroValue215
 t59 := Tryz.underlying140
 a59 := Tryz.isAgg140
 z59 := Tryz.sizeOf140
 v59 := Tryz.zeroValue140
 t146 := Tryz.underlying332
 a146 := Tryz.isAgg332
 z146 := Tryz.sizeOf332
 v146 := Tryz.zeroValue332
 g1 := by kernel_rfl }
open Go.RowKit Go.Lib in
theorem Tryz.strings_Cut (s sep : ByteArray) (m : Int) (w : World) (hs : s.size < 4294967281) (hm : w.cell? ⟨0, 0, none⟩ = some (.int .i64 m)) :
 Calls Tryz.prog 63 #[.string s, .string sep] w fun e w' => e = .returned (.tuple #[.string ⟨(Lib.cut s.data.toList sep.data.toList).1.toArray⟩, .string ⟨(Lib.cut s.data.toList sep.data.toList).2.1.toArray⟩, .bool (Lib.cut s.data.toList sep.data.toList).2.2]) ∧ ∃ n, w' = w.drewN n := Any.strings_Cut Tryz.lays145 s sep m w hs hm
def Tryz.laysM220_ren : Go.Shelf.Ren := ⟨fun | 220 => 116 | 219 => 162 | 217 => 205 | 225 => 206 | 224 => 207 | 267 => 208 | 266 => 240 | 314 => 241 | n => n, fun | 9 => 9 | 4 => 4 | 3 => 3 | 5 => 5 | 46 => 155 | 146 => 332 | 51 => 215 | n => n, fun | 1 => 0 | n => n⟩
theorem Tryz.laysM220 : Go.Proofs.LaysM.n220 Tryz.prog Tryz.laysM220_ren := {
 mixed := by kernel_rfl
 f217 := Tryz.func205.trans (congrArg some (by kernel_rfl))
 f219 := Tryz.func162.trans (congrArg some (by kernel_rfl))
 f220 := Tryz.func116.trans (congrArg some (by kernel_rfl))
 f224 := Tryz.func207.trans (congrArg some (by kernel_rfl))
 f225 := Tryz.func206.trans (congrArg some (by kernel_rfl))
 f266 := Tryz.func240.trans (congrArg some (by kernel_rfl))
 f267 := Tryz.func208.trans (congrArg some (by kernel_rfl))
 f314 := Tryz.func241.trans (congrArg some (by kernel_rfl))
 t3 := Tryz.underlying3
 a3 := Tryz.isAgg3
 z3 := Tryz.sizeOf3
 v3 := Tryz.zeroValue3
 t4 := Tryz.underlying4
 a4 := Tryz.isAgg4
 z4 := Tryz.sizeOf4
 v4 := Tryz.zeroValue4
 t5 := Tryz.underlying5
 a5 := Tryz.isAgg5
 z5 := Tryz.sizeOf5
 v5 := Tryz.zeroValue5
 t9 := Tryz.underlying9
 a9 := Tryz.isAgg9
 z9 := Tryz.sizeOf9
 v9 := Tryz.zeroValue9
 t46 := Tryz.underlying155
 a46 := Tryz.isAgg155
 z46 := Tryz.sizeOf155
 v46 := Tryz.zeroValue155
 t51 := Tryz.underlying215
 a51 := Tryz.isAgg215
 z51 := Tryz.sizeOf215
 v51 := Tryz.zeroValue215
 t146 := Tryz.underlying332
 a146 := Tryz.isAgg332
 z146 := Tryz.sizeOf332
 v146 := Tryz.zeroValue332
 g1 := by kernel_rfl
 i3 := by kernel_rfl
 i4 := by kernel_rfl
 i5 := by kernel_rfl
 i9 := by kernel_rfl
 i46 := by kernel_rfl
 i51 := by kernel_rfl
 i146 := by kernel_rfl
 m1 := by kernel_rfl
 s1_3 := fun w h => Go.Proofs.cell_of_shapedOpen_int (zero := #[.int .i64 0]) (t := 3) h (of_decide_eq_true (by kernel_rfl)) (by kernel_rfl) rfl (by kernel_rfl) (by kernel_rfl) Tryz.underlying3 }
def Tryz.lays99_ren : Go.Shelf.Ren := ⟨fun | 99 => 27 | 206 => 64 | n => n, fun | 9 => 9 | 4 => 4 | 3 => 3 | n => n, fun | n => n⟩
theorem Tryz.lays99 : Go.Proofs.Lays.n99 Tryz.prog Tryz.lays99_ren := {
 mixed := by kernel_rfl
 f99 := Tryz.func27.trans (congrArg some (by kernel_rfl))
 f206 := Tryz.func64.trans (congrArg some (by kernel_rfl))
 t3 := Tryz.underlying3
 a3 := Tryz.isAgg3
 z3 := Tryz.sizeOf3
 v3 := Tryz.zeroValue3
 t4 := Tryz.underlying4
 a4 := Tryz.isAgg4
 z4 := Tryz.sizeOf4
 v4 := Tryz.zeroValue4
 t9 := Tryz.underlying9
 a9 := Tryz.isAgg9
 z9 := Tryz.sizeOf9
 v9 := Tryz.zeroValue9 }
open Go.RowKit Go.Lib in
theorem Tryz.strings_HasPrefix (s p : ByteArray) (w : World) :
 Calls Tryz.prog 27 #[.string s, .string p] w fun e w' => e = .returned (.bool (Lib.hasPrefix s.data.toList p.data.toList)) ∧ w' = w := Any.strings_HasPrefix Tryz.lays99 s p w
def Tryz.lays109_ren : Go.Shelf.Ren := ⟨fun | 109 => 179 | n => n, fun | 31 => 22 | 9 => 9 | 3 => 3 | 0 => 0 | 4 => 4 | n => n, fun | n => n⟩
theorem Tryz.lays109 : Go.Proofs.Lays.n109 Tryz.prog Tryz.lays109_ren := {
 mixed := by kernel_rfl
 f109 := Tryz.func179.trans (congrArg some (by kernel_rfl))
 t0 := Tryz.underlying0
 a0 := Tryz.isAgg0
 z0 := Tryz.sizeOf0
 v0 := Tryz.zeroValue0
 t3 := Tryz.underlying3
 a3 := Tryz.isAgg3
 z3 := Tryz.sizeOf3
 v3 := Tryz.zeroValue3
 t4 := Tryz.underlying4
 a4 := Tryz.isAgg4
 z4 := Tryz.sizeOf4
 v4 := Tryz.zeroValue4
 t9 := Tryz.underlying9
 a9 := Tryz.isAgg9
 z9 := Tryz.sizeOf9
 v9 := Tryz.zeroValue9
 t31 := Tryz.underlying22
 a31 := Tryz.isAgg22
 z31 := Tryz.sizeOf22
 v31 := Tryz.zeroValue22 }
open Go.Lib in
theorem Tryz.slices_Index_string (b off n c : Nat) (zs : List ByteArray) (x : ByteArray) (w : World) (hz : n ≤ zs.length) (hbig : n ≤ 9223372036854775807) (hc : ∀ j, j < zs.length → w.cell? ⟨b, off + j, none⟩ = some (.string (zs.getD j ByteArray.empty))) :
 Calls Tryz.prog 179 #[.slice (some ⟨b, off, none⟩) n c, .string x] w fun e w' => e = .returned (.int .i64 (Lib.idxOfS (zs.take n) x)) ∧ w' = w := Any.slices_Index_string Tryz.lays109 b off n c zs x w hz hbig hc
end Go.Proofs
