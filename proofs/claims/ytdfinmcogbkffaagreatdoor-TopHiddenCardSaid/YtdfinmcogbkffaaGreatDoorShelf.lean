/- Contracts of the library, laid. -/
import Derived.Shelf.Strings.Builder1
import Derived.Shelf.Small.Strs
import Derived.Shelf.Small.Wraps
import Derived.Shelf.Strings.BuilderF
import Derived.Shelf.Strings.BuilderK
import Derived.Shelf.Strconv.Atoi
import Derived.Shelf.Strconv.Itoa0
import Derived.Shelf.Strconv.Itoa1
import Derived.Shelf.LaysM
import Derived.Shelf.Strconv.Itoa2
import Derived.Shelf.Strconv.Itoa3
import Derived.Shelf.Strconv.AtoiErrFast
import Derived.Shelf.Strconv.ParseIntEmpty
import Derived.Shelf.Strconv.AtoiFail
import Derived.Shelf.Strconv.Clone
import Derived.Shelf.Strconv.SyntaxError
import Derived.Shelf.LaysC
import Derived.Shelf.Strconv.ToError
import Derived.Shelf.Strconv.Lower
import Derived.Shelf.Strconv.ParseUint10
import Derived.Shelf.Strconv.ParseUint10Empty
import Derived.Shelf.Strconv.ParseUint10Any
import Derived.Shelf.Strconv.ParseInt10
import Derived.Shelf.Strconv.AtoiLong
import Derived.Shelf.Strconv.AtoiInnerAll
import Derived.Shelf.Strconv.RangeError
import Derived.Shelf.Strconv.ToErrorRange
import Derived.Shelf.Strconv.AtoiAll
import Derived.Shelf.Strconv.ErrVarAll
import Derived.Shelf.Strings.Search1
import Derived.Shelf.Strings.Search2
import Derived.Shelf.Strings.Cut
import Derived.Shelf.Strings.Shaped
import Derived.Shelf.Strings.Prefix
import Derived.Shelf.Strings.BuilderCap
import Derived.Shelf.Slices.Turned
import Derived.Shelf.Bytes.SlSearch0
import Derived.Shelf.Bytes.SlEqualAll
import Derived.Shelf.Bytes.Small
import Derived.Test.YtdfinmcogbkffaaGreatDoorProg
namespace Go.Proofs
open Go.Shelf
def Tryz.lays169_ren : Go.Shelf.Ren := ⟨fun | 169 => 149 | n => n, fun | 70 => 230 | 9 => 9 | 0 => 0 | 72 => 232 | 37 => 67 | 127 => 291 | 3 => 3 | 5 => 5 | n => n, fun | n => n⟩
theorem Tryz.lays169 : Go.Proofs.Lays.n169 Tryz.prog Tryz.lays169_ren := {
 mixed := by kernel_rfl
 f169 := Tryz.func149.trans (congrArg some (by kernel_rfl))
 t0 := Tryz.underlying0
 a0 := Tryz.isAgg0
 z0 := Tryz.sizeOf0
 v0 := Tryz.zeroValue0
 t3 := Tryz.underlying3
 a3 := Tryz.isAgg3
 z3 := Tryz.sizeOf3
 v3 := Tryz.zeroValue3
 t9 := Tryz.underlying9
 a9 := Tryz.isAgg9
 z9 := Tryz.sizeOf9
 v9 := Tryz.zeroValue9
 t37 := Tryz.underlying67
 a37 := Tryz.isAgg67
 z37 := Tryz.sizeOf67
 v37 := Tryz.zeroValue67
 t70 := Tryz.underlying230
 a70 := Tryz.isAgg230
 z70 := Tryz.sizeOf230
 v70 := Tryz.zeroValue230
 t72 := Tryz.underlying232
 a72 := Tryz.isAgg232
 z72 := Tryz.sizeOf232
 v72 := Tryz.zeroValue232
 t127 := Tryz.underlying291
 a127 := Tryz.isAgg291
 z127 := Tryz.sizeOf291
 v127 := Tryz.zeroValue291 }
theorem Tryz.Builder_Extra_169 : Builder.Extra Tryz.prog Tryz.lays169_ren := {
 sizeBuilder := by kernel_rfl
 liesBuilder := by kernel_rfl
 t5 := Tryz.underlying5
 a5 := Tryz.isAgg5
 z5 := Tryz.sizeOf5
 v5 := Tryz.zeroValue5
 infoByte := by kernel_rfl
 cellsByte := by kernel_rfl
 sizeByte := by kernel_rfl
 neB5 := by decide }
def Tryz.lays137_ren : Go.Shelf.Ren := ⟨fun | 137 => 155 | 217 => 198 | 266 => 238 | n => n, fun | 9 => 9 | 5 => 5 | 3 => 3 | n => n, fun | n => n⟩
theorem Tryz.lays137 : Go.Proofs.Lays.n137 Tryz.prog Tryz.lays137_ren := {
 mixed := by kernel_rfl
 f137 := Tryz.func155.trans (congrArg some (by kernel_rfl))
 f217 := Tryz.func198.trans (congrArg some (by kernel_rfl))
 f266 := Tryz.func238.trans (congrArg some (by kernel_rfl))
 t3 := Tryz.underlying3
 a3 := Tryz.isAgg3
 z3 := Tryz.sizeOf3
 v3 := Tryz.zeroValue3
 t5 := Tryz.underlying5
 a5 := Tryz.isAgg5
 z5 := Tryz.sizeOf5
 v5 := Tryz.zeroValue5
 t9 := Tryz.underlying9
 a9 := Tryz.isAgg9
 z9 := Tryz.sizeOf9
 v9 := Tryz.zeroValue9 }
open Go.RowKit in
theorem Tryz.strings_IndexByte (s : ByteArray) (c : Int) (w : World) :
 Calls Tryz.prog 155 #[.string s, .int .u8 c] w fun e w' => e = .returned (.int .i64 (Lib.indexByte s.data.toList c.toNat.toUInt8)) ∧ w' = w := Any.strings_IndexByte Tryz.lays137 s c w
def Tryz.lays121_ren : Go.Shelf.Ren := ⟨fun | 121 => 103 | 214 => 146 | n => n, fun | 4 => 4 | 9 => 9 | n => n, fun | n => n⟩
theorem Tryz.lays121 : Go.Proofs.Lays.n121 Tryz.prog Tryz.lays121_ren := {
 mixed := by kernel_rfl
 f121 := Tryz.func103.trans (congrArg some (by kernel_rfl))
 f214 := Tryz.func146.trans (congrArg some (by kernel_rfl))
 t4 := Tryz.underlying4
 a4 := Tryz.isAgg4
 z4 := Tryz.sizeOf4
 v4 := Tryz.zeroValue4
 t9 := Tryz.underlying9
 a9 := Tryz.isAgg9
 z9 := Tryz.sizeOf9
 v9 := Tryz.zeroValue9 }
open Go.RowKit in
theorem Tryz.strconv_FormatBool (b : Bool) (w : World) :
 Calls Tryz.prog 103 #[.bool b] w fun e w' => e = .returned (.string ⟨(Lib.formatBool b).toArray⟩) ∧ w' = w := Any.strconv_FormatBool Tryz.lays121 b w
open Go.RowKit in
theorem Tryz.Builder_String_any_k (B b : Nat) (l : List UInt8) (w : World) (h : Lib.IsBuilderF 232 5 B b (Lib.byteCells l) w) (hBw : B ≤ w.heap.size) :
 Calls Tryz.prog 149 #[.pointer (some ⟨b, 0, none⟩)] w fun e w' => e = .returned (.string ⟨l.toArray⟩) ∧ (Lib.IsBuilderF 232 5 B b (Lib.byteCells l) w' ∧ Below B w w' ∧ Lib.OthersKept 5 (some b) w w') := Any.Builder_String_any_k Tryz.lays169 Tryz.Builder_Extra_169 B b l w h hBw
def Tryz.laysM171_ren : Go.Shelf.Ren := ⟨fun | 171 => 46 | 243 => 102 | 246 => 145 | 283 => 193 | 284 => 194 | 285 => 195 | 286 => 196 | 129 => 233 | 317 => 232 | 318 => 234 | 319 => 235 | 320 => 236 | 337 => 261 | 338 => 262 | n => n, fun | 3 => 3 | 9 => 9 | 2 => 2 | 4 => 4 | 171 => 286 | 0 => 0 | 53 => 60 | 37 => 67 | 5 => 5 | 173 => 289 | 212 => 327 | 51 => 189 | 20 => 20 | 213 => 328 | 46 => 110 | 232 => 380 | 233 => 381 | n => n, fun | 17 => 3 | 18 => 4 | 19 => 5 | n => n⟩
theorem Tryz.laysM171 : Go.Proofs.LaysM.n171 Tryz.prog Tryz.laysM171_ren := {
 mixed := by kernel_rfl
 f129 := Tryz.func233.trans (congrArg some (by kernel_rfl))
 f171 := Tryz.func46.trans (congrArg some (by kernel_rfl))
 f243 := Tryz.func102.trans (congrArg some (by kernel_rfl))
 f246 := Tryz.func145.trans (congrArg some (by kernel_rfl))
 f283 := Tryz.func193.trans (congrArg some (by kernel_rfl))
 f284 := Tryz.func194.trans (congrArg some (by kernel_rfl))
 f285 := Tryz.func195.trans (congrArg some (by kernel_rfl))
 f286 := Tryz.func196.trans (congrArg some (by kernel_rfl))
 f317 := Tryz.func232.trans (congrArg some (by kernel_rfl))
 f318 := Tryz.func234.trans (congrArg some (by kernel_rfl))
 f319 := Tryz.func235.trans (congrArg some (by kernel_rfl))
 f320 := Tryz.func236.trans (congrArg some (by kernel_rfl))
 f337 := Tryz.func261.trans (congrArg some (by kernel_rfl))
 f338 := Tryz.func262.trans (congrArg some (by kernel_rfl))
 t0 := Tryz.underlying0
 a0 := Tryz.isAgg0
 z0 := Tryz.sizeOf0
 v0 := Tryz.zeroValue0
 t2 := Tryz.underlying2
 a2 := Tryz.isAgg2
 z2 := Tryz.sizeOf2
 v2 := Tryz.zeroValue2
 t3 := Tryz.underlying3
 a3 := Tryz.isAgg3
 z3 := Tryz.sizeOf3
 v3 := Tryz.zeroValue3
 t4 := Tryz.underlying4
 a4 := Tryz.isAgg4
 z4 := Tryz.sizeOf4
 v4 := Tryz.zeroValue4
 t5 := Tryz.underlying5
 a5 := Tryz.isAgg5
 z5 := Tryz.sizeOf5
 v5 := Tryz.zeroValue5
 t9 := Tryz.underlying9
 a9 := Tryz.isAgg9
 z9 := Tryz.sizeOf9
 v9 := Tryz.zeroValue9
 t20 := Tryz.underlying20
 a20 := Tryz.isAgg20
 z20 := Tryz.sizeOf20
 v20 := Tryz.zeroValue20
 t37 := Tryz.underlying67
 a37 := Tryz.isAgg67
 z37 := Tryz.sizeOf67
 v37 := Tryz.zeroValue67
 t46 := Tryz.underlying110
 a46 := Tryz.isAgg110
 z46 := Tryz.sizeOf110
 v46 := Tryz.zeroValue110
 t51 := Tryz.underlying189
 a51 := Tryz.isAgg189
 z51 := Tryz.sizeOf189
 v51 := Tryz.zeroValue189
 t53 := Tryz.underlying60
 a53 := Tryz.isAgg60
 z53 := Tryz.sizeOf60
 v53 := Tryz.zeroValue60
 t171 := Tryz.underlying286
 a171 := Tryz.isAgg286
 z171 := Tryz.sizeOf286
 v171 := Tryz.zeroValue286
 t173 := Tryz.underlying289
 a173 := Tryz.isAgg289
 z173 := Tryz.sizeOf289
 v173 := Tryz.zeroValue289
 t212 := Tryz.underlying327
 a212 := Tryz.isAgg327
 z212 := Tryz.sizeOf327
 v212 := Tryz.zeroValue327
 t213 := Tryz.underlying328
 a213 := Tryz.isAgg328
 z213 := Tryz.sizeOf328
 t232 := Tryz.underlying380
 a232 := Tryz.isAgg380
 z232 := Tryz.sizeOf380
 v232 := Tryz.zeroValue380
 t233 := Tryz.underlying381
 a233 := Tryz.isAgg381
 z233 := Tryz.sizeOf381
 v233 := Tryz.zeroValue381
 g17 := by kernel_rfl
 g18 := by kernel_rfl
 g19 := by kernel_rfl
 i0 := by kernel_rfl
 i2 := by kernel_rfl
 i3 := by kernel_rfl
 i4 := by kernel_rfl
 i5 := by kernel_rfl
 i9 := by kernel_rfl
 i20 := by kernel_rfl
 i37 := by kernel_rfl
 i46 := by kernel_rfl
 i51 := by kernel_rfl
 i53 := by kernel_rfl
 i171 := by kernel_rfl
 i173 := by kernel_rfl
 i212 := by kernel_rfl
 i232 := by kernel_rfl
 i233 := by kernel_rfl
 m17 := by kernel_rfl
 m18 := by kernel_rfl
 m19 := by kernel_rfl }
open Go.RowKit Go.Sort Go.Lib in
theorem Tryz.strconv_Itoa (n : Int) (h0 : -9223372036854775808 ≤ n) (h1 : n ≤ 9223372036854775807) (w : World) (htab : Lib.TabIs Tryz.prog w "internal/strconv.uint64pow10" .u64 Lib.pow10Tab) :
 Calls Tryz.prog 46 #[.int .i64 n] w fun e w' => e = .returned (.string ⟨(Lib.itoa n).toArray⟩) ∧ ∃ k os, w' = grow (w.drewN k) os := Any.strconv_Itoa Tryz.laysM171 n h0 h1 w htab
def Tryz.laysC172_ren : Go.Shelf.Ren := ⟨fun | 172 => 52 | 244 => 107 | 245 => 108 | 247 => 156 | 279 => 157 | 280 => 158 | 281 => 159 | 282 => 160 | 287 => 206 | 316 => 207 | 171 => 46 | 205 => 208 | 321 => 241 | 322 => 242 | 243 => 102 | 246 => 145 | 283 => 193 | 284 => 194 | 285 => 195 | 286 => 196 | 129 => 233 | 317 => 232 | 318 => 234 | 319 => 235 | 320 => 236 | 337 => 261 | 338 => 262 | n => n, fun | 9 => 9 | 3 => 3 | 75 => 126 | 76 => 127 | 4 => 4 | 5 => 5 | 167 => 241 | 37 => 67 | 0 => 0 | 85 => 242 | 2 => 2 | 168 => 244 | 53 => 60 | 175 => 296 | 46 => 110 | 210 => 299 | 127 => 291 | 145 => 338 | 143 => 336 | 21 => 21 | 171 => 286 | 173 => 289 | 212 => 327 | 51 => 189 | 20 => 20 | 213 => 328 | 232 => 380 | 233 => 381 | 80 => 206 | n => n, fun | 15 => 1 | 16 => 2 | 17 => 3 | 18 => 4 | 19 => 5 | n => n⟩
theorem Tryz.laysC172 : Go.Proofs.LaysC.n172 Tryz.prog Tryz.laysC172_ren := {
 mixed := by kernel_rfl
 f129 := Tryz.func233.trans (congrArg some (by kernel_rfl))
 f171 := Tryz.func46.trans (congrArg some (by kernel_rfl))
 f172 := Tryz.func52.trans (congrArg some (by kernel_rfl))
 f205 := Tryz.func208.trans (congrArg some (by kernel_rfl))
 f243 := Tryz.func102.trans (congrArg some (by kernel_rfl))
 f244 := Tryz.func107.trans (congrArg some (by kernel_rfl))
 f245 := Tryz.func108.trans (congrArg some (by kernel_rfl))
 f246 := Tryz.func145.trans (congrArg some (by kernel_rfl))
 f247 := Tryz.func156.trans (congrArg some (by kernel_rfl))
 f279 := Tryz.func157.trans (congrArg some (by kernel_rfl))
 f280 := Tryz.func158.trans (congrArg some (by kernel_rfl))
 f281 := Tryz.func159.trans (congrArg some (by kernel_rfl))
 f282 := Tryz.func160.trans (congrArg some (by kernel_rfl))
 f283 := Tryz.func193.trans (congrArg some (by kernel_rfl))
 f284 := Tryz.func194.trans (congrArg some (by kernel_rfl))
 f285 := Tryz.func195.trans (congrArg some (by kernel_rfl))
 f286 := Tryz.func196.trans (congrArg some (by kernel_rfl))
 f287 := Tryz.func206.trans (congrArg some (by kernel_rfl))
 f316 := Tryz.func207.trans (congrArg some (by kernel_rfl))
 f317 := Tryz.func232.trans (congrArg some (by kernel_rfl))
 f318 := Tryz.func234.trans (congrArg some (by kernel_rfl))
 f319 := Tryz.func235.trans (congrArg some (by kernel_rfl))
 f320 := Tryz.func236.trans (congrArg some (by kernel_rfl))
 f321 := Tryz.func241.trans (congrArg some (by kernel_rfl))
 f322 := Tryz.func242.trans (congrArg some (by kernel_rfl))
 f337 := Tryz.func261.trans (congrArg some (by kernel_rfl))
 f338 := Tryz.func262.trans (congrArg some (by kernel_rfl))
 t0 := Tryz.underlying0
 a0 := Tryz.isAgg0
 z0 := Tryz.sizeOf0
 v0 := Tryz.zeroValue0
 t2 := Tryz.underlying2
 a2 := Tryz.isAgg2
 z2 := Tryz.sizeOf2
 v2 := Tryz.zeroValue2
 t3 := Tryz.underlying3
 a3 := Tryz.isAgg3
 z3 := Tryz.sizeOf3
 v3 := Tryz.zeroValue3
 t4 := Tryz.underlying4
 a4 := Tryz.isAgg4
 z4 := Tryz.sizeOf4
 v4 := Tryz.zeroValue4
 t5 := Tryz.underlying5
 a5 := Tryz.isAgg5
 z5 := Tryz.sizeOf5
 v5 := Tryz.zeroValue5
 t9 := Tryz.underlying9
 a9 := Tryz.isAgg9
 z9 := Tryz.sizeOf9
 v9 := Tryz.zeroValue9
 t20 := Tryz.underlying20
 a20 := Tryz.isAgg20
 z20 := Tryz.sizeOf20
 v20 := Tryz.zeroValue20
 t21 := Tryz.underlying21
 a21 := Tryz.isAgg21
 z21 := Tryz.sizeOf21
 v21 := Tryz.zeroValue21
 t37 := Tryz.underlying67
 a37 := Tryz.isAgg67
 z37 := Tryz.sizeOf67
 v37 := Tryz.zeroValue67
 t46 := Tryz.underlying110
 a46 := Tryz.isAgg110
 z46 := Tryz.sizeOf110
 v46 := Tryz.zeroValue110
 t51 := Tryz.underlying189
 a51 := Tryz.isAgg189
 z51 := Tryz.sizeOf189
 v51 := Tryz.zeroValue189
 t53 := Tryz.underlying60
 a53 := Tryz.isAgg60
 z53 := Tryz.sizeOf60
 v53 := Tryz.zeroValue60
 t75 := Tryz.underlying126
 a75 := Tryz.isAgg126
 z75 := Tryz.sizeOf126
 v75 := Tryz.zeroValue126
 t76 := Tryz.underlying127
 a76 := Tryz.isAgg127
 z76 := Tryz.sizeOf127
 v76 := Tryz.zeroValue127
 t85 := Tryz.underlying242
 a85 := Tryz.isAgg242
 z85 := Tryz.sizeOf242
 v85 := Tryz.zeroValue242
 t127 := Tryz.underlying291
 a127 := Tryz.isAgg291
 z127 := Tryz.sizeOf291
 v127 := Tryz.zeroValue291
 t143 := Tryz.underlying336
 a143 := Tryz.isAgg336
 z143 := Tryz.sizeOf336
 v143 := Tryz.zeroValue336
 t145 := Tryz.underlying338
 a145 := Tryz.isAgg338
 z145 := Tryz.sizeOf338
 v145 := Tryz.zeroValue338
 t167 := Tryz.underlying241
 a167 := Tryz.isAgg241
 z167 := Tryz.sizeOf241
 v167 := Tryz.zeroValue241
 t168 := Tryz.underlying244
 a168 := Tryz.isAgg244
 z168 := Tryz.sizeOf244
 v168 := Tryz.zeroValue244
 t171 := Tryz.underlying286
 a171 := Tryz.isAgg286
 z171 := Tryz.sizeOf286
 v171 := Tryz.zeroValue286
 t173 := Tryz.underlying289
 a173 := Tryz.isAgg289
 z173 := Tryz.sizeOf289
 v173 := Tryz.zeroValue289
 t175 := Tryz.underlying296
 a175 := Tryz.isAgg296
 z175 := Tryz.sizeOf296
 v175 := Tryz.zeroValue296
 t210 := Tryz.underlying299
 a210 := Tryz.isAgg299
 z210 := Tryz.sizeOf299
 v210 := Tryz.zeroValue299
 t212 := Tryz.underlying327
 a212 := Tryz.isAgg327
 z212 := Tryz.sizeOf327
 v212 := Tryz.zeroValue327
 t213 := Tryz.underlying328
 a213 := Tryz.isAgg328
 z213 := Tryz.sizeOf328
 t232 := Tryz.underlying380
 a232 := Tryz.isAgg380
 z232 := Tryz.sizeOf380
 v232 := Tryz.zeroValue380
 t233 := Tryz.underlying381
 a233 := Tryz.isAgg381
 z233 := Tryz.sizeOf381
 v233 := Tryz.zeroValue381
 g15 := by kernel_rfl
 g16 := by kernel_rfl
 g17 := by kernel_rfl
 g18 := by kernel_rfl
 g19 := by kernel_rfl
 t80 := Tryz.underlying206
 a80 := Tryz.isAgg206
 z80 := Tryz.sizeOf206
 v80 := Tryz.zeroValue206
 i0 := by kernel_rfl
 i2 := by kernel_rfl
 i3 := by kernel_rfl
 i4 := by kernel_rfl
 i5 := by kernel_rfl
 i9 := by kernel_rfl
 i20 := by kernel_rfl
 i21 := by kernel_rfl
 i37 := by kernel_rfl
 i46 := by kernel_rfl
 i51 := by kernel_rfl
 i53 := by kernel_rfl
 i75 := by kernel_rfl
 i76 := by kernel_rfl
 i80 := by kernel_rfl
 i85 := by kernel_rfl
 i127 := by kernel_rfl
 i143 := by kernel_rfl
 i145 := by kernel_rfl
 i167 := by kernel_rfl
 i168 := by kernel_rfl
 i171 := by kernel_rfl
 i173 := by kernel_rfl
 i175 := by kernel_rfl
 i210 := by kernel_rfl
 i212 := by kernel_rfl
 i232 := by kernel_rfl
 i233 := by kernel_rfl
 m15 := by kernel_rfl
 m16 := by kernel_rfl
 m17 := by kernel_rfl
 m18 := by kernel_rfl
 m19 := by kernel_rfl
 c0 := by kernel_rfl
 c2 := by kernel_rfl
 c3 := by kernel_rfl
 c4 := by kernel_rfl
 c5 := by kernel_rfl
 c9 := by kernel_rfl
 c20 := by kernel_rfl
 c21 := by kernel_rfl
 c37 := by kernel_rfl
 c46 := by kernel_rfl
 c51 := by kernel_rfl
 c53 := by kernel_rfl
 c75 := by kernel_rfl
 c76 := by kernel_rfl
 c80 := by kernel_rfl
 c85 := by kernel_rfl
 c127 := by kernel_rfl
 c143 := by kernel_rfl
 c145 := by kernel_rfl
 c167 := by kernel_rfl
 c168 := by kernel_rfl
 c171 := by kernel_rfl
 c173 := by kernel_rfl
 c175 := by kernel_rfl
 c210 := by kernel_rfl
 c212 := by kernel_rfl
 c213 := by kernel_rfl
 c232 := by kernel_rfl
 c233 := by kernel_rfl }
open Go.RowKit in
theorem Tryz.strconv_Atoi_ok (s : ByteArray) (hmax : s.size ≤ 9223372036854775806) (v : Int) (h : Lib.atoiAll s.data.toList = .ok v) (w : World) :
 Calls Tryz.prog 52 #[.string s] w fun e w' => e = .returned (.tuple #[.int .i64 v, .nilIface]) ∧ (w' = w ∨ ∃ t, w' = Lib.bytesWorld w 5 t) := Any.strconv_Atoi_ok Tryz.laysC172 s hmax v h w
open Go.RowKit in
theorem Tryz.strconv_Atoi_range (s : ByteArray) (hlim : s.size ≤ 281474976710656) (h : Lib.atoiAll s.data.toList = .range) (ev : Value) (w : World) (hv : w.cell? ⟨2, 0, none⟩ = some ev) (hev : ev = .nilIface ∨ ∃ te pe, ev = .iface te pe) :
 Calls Tryz.prog 52 #[.string s] w fun e w' => ∃ N, e = .returned (.tuple #[.int .i64 (Lib.atoiSat s.data.toList), .iface 244 (.pointer (some ⟨N, 0, none⟩))]) ∧ w.heap.size ≤ N ∧ w'.heap[N]? = some (.cells #[.string ⟨#[65, 116, 111, 105]⟩, .string s, ev] 299 (0, 0)) ∧ Below w.heap.size w w' := Any.strconv_Atoi_range Tryz.laysC172 s hlim h ev w hv hev
def Tryz.lays145_ren : Go.Shelf.Ren := ⟨fun | 145 => 48 | 220 => 105 | 219 => 150 | 217 => 198 | 225 => 199 | 224 => 200 | 267 => 201 | 266 => 238 | 314 => 239 | n => n, fun | 9 => 9 | 4 => 4 | 59 => 118 | 3 => 3 | 5 => 5 | 46 => 110 | 146 => 332 | 51 => 189 | n => n, fun | 1 => 0 | n => n⟩
theorem Tryz.lays145 : Go.Proofs.Lays.n145 Tryz.prog Tryz.lays145_ren := {
 mixed := by kernel_rfl
 f145 := Tryz.func48.trans (congrArg some (by kernel_rfl))
 f217 := Tryz.func198.trans (congrArg some (by kernel_rfl))
 f219 := Tryz.func150.trans (congrArg some (by kernel_rfl))
 f220 := Tryz.func105.trans (congrArg some (by kernel_rfl))
 f224 := Tryz.func200.trans (congrArg some (by kernel_rfl))
 f225 := Tryz.func199.trans (congrArg some (by kernel_rfl))
 f266 := Tryz.func238.trans (congrArg some (by kernel_rfl))
 f267 := Tryz.func201.trans (congrArg some (by kernel_rfl))
 f314 := Tryz.func239.trans (congrArg some (by kernel_rfl))
 t3 := Tryz.underlying3
 a3 := Tryz.isAgg3
 z3 := Tryz.sizeOf3
 v3 := Tryz.zeroValue3
 t4 := Tryz.underlying4
 a4 := Tryz.isAgg4
 z4 := Tryz.sizeOf4
 v4 := Tryz.zeroValue4
 t5 := Tryz.underlying5
 a5 := Tryz.isAgg5
 z5 := Tryz.sizeOf5
 v5 := Tryz.zeroValue5
 t9 := Tryz.underlying9
 a9 := Tryz.isAgg9
 z9 := Tryz.sizeOf9
 v9 := Tryz.zeroValue9
 t46 := Tryz.underlying110
 a46 := Tryz.isAgg110
 z46 := Tryz.sizeOf110
 v46 := Tryz.zeroValue110
 t51 := Tryz.underlying189
 a51 := Tryz.isAgg189
 z51 := Tryz.sizeOf189
 v51 := Tryz.zeroValue189
 t59 := Tryz.underlying118
 a59 := Tryz.isAgg118
 z59 := Tryz.sizeOf118
 v59 := Tryz.zeroValue118
 t146 := Tryz.underlying332
 a146 := Tryz.isAgg332
 z146 := Tryz.sizeOf332
 v146 := Tryz.zeroValue332
 g1 := by kernel_rfl }
open Go.RowKit Go.Lib in
theorem Tryz.strings_Cut (s sep : ByteArray) (m : Int) (w : World) (hs : s.size < 4294967281) (hm : w.cell? ⟨0, 0, none⟩ = some (.int .i64 m)) :
 Calls Tryz.prog 48 #[.string s, .string sep] w fun e w' => e = .returned (.tuple #[.string ⟨(Lib.cut s.data.toList sep.data.toList).1.toArray⟩, .string ⟨(Lib.cut s.data.toList sep.data.toList).2.1.toArray⟩, .bool (Lib.cut s.data.toList sep.data.toList).2.2]) ∧ ∃ n, w' = w.drewN n := Any.strings_Cut Tryz.lays145 s sep m w hs hm
def Tryz.laysM220_ren : Go.Shelf.Ren := ⟨fun | 220 => 105 | 219 => 150 | 217 => 198 | 225 => 199 | 224 => 200 | 267 => 201 | 266 => 238 | 314 => 239 | n => n, fun | 9 => 9 | 4 => 4 | 3 => 3 | 5 => 5 | 46 => 110 | 146 => 332 | 51 => 189 | n => n, fun | 1 => 0 | n => n⟩
theorem Tryz.laysM220 : Go.Proofs.LaysM.n220 Tryz.prog Tryz.laysM220_ren := {
 mixed := by kernel_rfl
 f217 := Tryz.func198.trans (congrArg some (by kernel_rfl))
 f219 := Tryz.func150.trans (congrArg some (by kernel_rfl))
 f220 := Tryz.func105.trans (congrArg some (by kernel_rfl))
 f224 := Tryz.func200.trans (congrArg some (by kernel_rfl))
 f225 := Tryz.func199.trans (congrArg some (by kernel_rfl))
 f266 := Tryz.func238.trans (congrArg some (by kernel_rfl))
 f267 := Tryz.func201.trans (congrArg some (by kernel_rfl))
 f314 := Tryz.func239.trans (congrArg some (by kernel_rfl))
 t3 := Tryz.underlying3
 a3 := Tryz.isAgg3
 z3 := Tryz.sizeOf3
 v3 := Tryz.zeroValue3
 t4 := Tryz.underlying4
 a4 := Tryz.isAgg4
 z4 := Tryz.sizeOf4
 v4 := Tryz.zeroValue4
 t5 := Tryz.underlying5
 a5 := Tryz.isAgg5
 z5 := Tryz.sizeOf5
 v5 := Tryz.zeroValue5
 t9 := Tryz.underlying9
 a9 := Tryz.isAgg9
 z9 := Tryz.sizeOf9
 v9 := Tryz.zeroValue9
 t46 := Tryz.underlying110
 a46 := Tryz.isAgg110
 z46 := Tryz.sizeOf110
 v46 := Tryz.zeroValue110
 t51 := Tryz.underlying189
 a51 := Tryz.isAgg189
 z51 := Tryz.sizeOf189
 v51 := Tryz.zeroValue189
 t146 := Tryz.underlying332
 a146 := Tryz.isAgg332
 z146 := Tryz.sizeOf332
 v146 := Tryz.zeroValue332
 g1 := by kernel_rfl
 i3 := by kernel_rfl
 i4 := by kernel_rfl
 i5 := by kernel_rfl
 i9 := by kernel_rfl
 i46 := by kernel_rfl
 i51 := by kernel_rfl
 i146 := by kernel_rfl
 m1 := by kernel_rfl
 s1_3 := fun w h => Go.Proofs.cell_of_shapedOpen_int (zero := #[.int .i64 0]) (t := 3) h (of_decide_eq_true (by kernel_rfl)) (by kernel_rfl) rfl (by kernel_rfl) (by kernel_rfl) Tryz.underlying3 }
def Tryz.lays99_ren : Go.Shelf.Ren := ⟨fun | 99 => 19 | 206 => 49 | n => n, fun | 9 => 9 | 4 => 4 | 3 => 3 | n => n, fun | n => n⟩
theorem Tryz.lays99 : Go.Proofs.Lays.n99 Tryz.prog Tryz.lays99_ren := {
 mixed := by kernel_rfl
 f99 := Tryz.func19.trans (congrArg some (by kernel_rfl))
 f206 := Tryz.func49.trans (congrArg some (by kernel_rfl))
 t3 := Tryz.underlying3
 a3 := Tryz.isAgg3
 z3 := Tryz.sizeOf3
 v3 := Tryz.zeroValue3
 t4 := Tryz.underlying4
 a4 := Tryz.isAgg4
 z4 := Tryz.sizeOf4
 v4 := Tryz.zeroValue4
 t9 := Tryz.underlying9
 a9 := Tryz.isAgg9
 z9 := Tryz.sizeOf9
 v9 := Tryz.zeroValue9 }
open Go.RowKit Go.Lib in
theorem Tryz.strings_HasPrefix (s p : ByteArray) (w : World) :
 Calls Tryz.prog 19 #[.string s, .string p] w fun e w' => e = .returned (.bool (Lib.hasPrefix s.data.toList p.data.toList)) ∧ w' = w := Any.strings_HasPrefix Tryz.lays99 s p w
def Tryz.lays109_ren : Go.Shelf.Ren := ⟨fun | 109 => 169 | n => n, fun | 31 => 22 | 9 => 9 | 3 => 3 | 0 => 0 | 4 => 4 | n => n, fun | n => n⟩
theorem Tryz.lays109 : Go.Proofs.Lays.n109 Tryz.prog Tryz.lays109_ren := {
 mixed := by kernel_rfl
 f109 := Tryz.func169.trans (congrArg some (by kernel_rfl))
 t0 := Tryz.underlying0
 a0 := Tryz.isAgg0
 z0 := Tryz.sizeOf0
 v0 := Tryz.zeroValue0
 t3 := Tryz.underlying3
 a3 := Tryz.isAgg3
 z3 := Tryz.sizeOf3
 v3 := Tryz.zeroValue3
 t4 := Tryz.underlying4
 a4 := Tryz.isAgg4
 z4 := Tryz.sizeOf4
 v4 := Tryz.zeroValue4
 t9 := Tryz.underlying9
 a9 := Tryz.isAgg9
 z9 := Tryz.sizeOf9
 v9 := Tryz.zeroValue9
 t31 := Tryz.underlying22
 a31 := Tryz.isAgg22
 z31 := Tryz.sizeOf22
 v31 := Tryz.zeroValue22 }
open Go.Lib in
theorem Tryz.slices_Index_string (b off n c : Nat) (zs : List ByteArray) (x : ByteArray) (w : World) (hz : n ≤ zs.length) (hbig : n ≤ 9223372036854775807) (hc : ∀ j, j < zs.length → w.cell? ⟨b, off + j, none⟩ = some (.string (zs.getD j ByteArray.empty))) :
 Calls Tryz.prog 169 #[.slice (some ⟨b, off, none⟩) n c, .string x] w fun e w' => e = .returned (.int .i64 (Lib.idxOfS (zs.take n) x)) ∧ w' = w := Any.slices_Index_string Tryz.lays109 b off n c zs x w hz hbig hc
end Go.Proofs
