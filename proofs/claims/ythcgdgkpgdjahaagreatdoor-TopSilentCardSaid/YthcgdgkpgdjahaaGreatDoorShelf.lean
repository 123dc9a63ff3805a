/- Contracts of the library, laid. -/
import Derived.Shelf.Strings.Builder1
import Derived.Shelf.Small.Strs
import Derived.Shelf.Small.Wraps
import Derived.Shelf.Strings.BuilderF
import Derived.Shelf.Strings.BuilderK
import Derived.Shelf.Strconv.Atoi
import Derived.Shelf.Strconv.Itoa0
import Derived.Shelf.Strconv.Itoa1
import Derived.Shelf.LaysM
import Derived.Shelf.Strconv.Itoa2
import Derived.Shelf.Strconv.Itoa3
import Derived.Shelf.Strconv.AtoiErrFast
import Derived.Shelf.Strconv.ParseIntEmpty
import Derived.Shelf.Strconv.AtoiFail
import Derived.Shelf.Strconv.Clone
import Derived.Shelf.Strconv.SyntaxError
import Derived.Shelf.LaysC
import Derived.Shelf.Strconv.ToError
import Derived.Shelf.Strconv.Lower
import Derived.Shelf.Strconv.ParseUint10
import Derived.Shelf.Strconv.ParseUint10Empty
import Derived.Shelf.Strconv.ParseUint10Any
import Derived.Shelf.Strconv.ParseInt10
import Derived.Shelf.Strconv.AtoiLong
import Derived.Shelf.Strconv.AtoiInnerAll
import Derived.Shelf.Strconv.RangeError
import Derived.Shelf.Strconv.ToErrorRange
import Derived.Shelf.Strconv.AtoiAll
import Derived.Shelf.Strconv.ErrVarAll
import Derived.Shelf.Strings.Search1
import Derived.Shelf.Strings.Search2
import Derived.Shelf.Strings.Cut
import Derived.Shelf.Strings.Shaped
import Derived.Shelf.Strings.Prefix
import Derived.Shelf.Strings.BuilderCap
import Derived.Shelf.Slices.Turned
import Derived.Shelf.Bytes.SlSearch0
import Derived.Shelf.Bytes.SlEqualAll
import Derived.Shelf.Bytes.Small
import Derived.Test.YthcgdgkpgdjahaaGreatDoorProg
namespace Go.Proofs
open Go.Shelf
def Tryz.lays169_ren : Go.Shelf.Ren := ⟨fun | 169 => 127 | n => n, fun | 70 => 209 | 9 => 9 | 0 => 0 | 72 => 211 | 37 => 71 | 127 => 261 | 3 => 3 | 5 => 5 | n => n, fun | n => n⟩
theorem Tryz.lays169 : Go.Proofs.Lays.n169 Tryz.prog Tryz.lays169_ren := {
 mixed := by kernel_rfl
 f169 := Tryz.func127.trans (congrArg some (by kernel_rfl))
 t0 := Tryz.underlying0
 a0 := Tryz.isAgg0
 z0 := Tryz.sizeOf0
 v0 := Tryz.zeroValue0
 t3 := Tryz.underlying3
 a3 := Tryz.isAgg3
 z3 := Tryz.sizeOf3
 v3 := Tryz.zeroValue3
 t9 := Tryz.underlying9
 a9 := Tryz.isAgg9
 z9 := Tryz.sizeOf9
 v9 := Tryz.zeroValue9
 t37 := Tryz.underlying71
 a37 := Tryz.isAgg71
 z37 := Tryz.sizeOf71
 v37 := Tryz.zeroValue71
 t70 := Tryz.underlying209
 a70 := Tryz.isAgg209
 z70 := Tryz.sizeOf209
 v70 := Tryz.zeroValue209
 t72 := Tryz.underlying211
 a72 := Tryz.isAgg211
 z72 := Tryz.sizeOf211
 v72 := Tryz.zeroValue211
 t127 := Tryz.underlying261
 a127 := Tryz.isAgg261
 z127 := Tryz.sizeOf261
 v127 := Tryz.zeroValue261 }
theorem Tryz.Builder_Extra_169 : Builder.Extra Tryz.prog Tryz.lays169_ren := {
 sizeBuilder := by kernel_rfl
 liesBuilder := by kernel_rfl
 t5 := Tryz.underlying5
 a5 := Tryz.isAgg5
 z5 := Tryz.sizeOf5
 v5 := Tryz.zeroValue5
 infoByte := by kernel_rfl
 cellsByte := by kernel_rfl
 sizeByte := by kernel_rfl
 neB5 := by decide }
def Tryz.lays137_ren : Go.Shelf.Ren := ⟨fun | 137 => 161 | 217 => 202 | 266 => 238 | n => n, fun | 9 => 9 | 5 => 5 | 3 => 3 | n => n, fun | n => n⟩
theorem Tryz.lays137 : Go.Proofs.Lays.n137 Tryz.prog Tryz.lays137_ren := {
 mixed := by kernel_rfl
 f137 := Tryz.func161.trans (congrArg some (by kernel_rfl))
 f217 := Tryz.func202.trans (congrArg some (by kernel_rfl))
 f266 := Tryz.func238.trans (congrArg some (by kernel_rfl))
 t3 := Tryz.underlying3
 a3 := Tryz.isAgg3
 z3 := Tryz.sizeOf3
 v3 := Tryz.zeroValue3
 t5 := Tryz.underlying5
 a5 := Tryz.isAgg5
 z5 := Tryz.sizeOf5
 v5 := Tryz.zeroValue5
 t9 := Tryz.underlying9
 a9 := Tryz.isAgg9
 z9 := Tryz.sizeOf9
 v9 := Tryz.zeroValue9 }
open Go.RowKit in
theorem Tryz.strings_IndexByte (s : ByteArray) (c : Int) (w : World) :
 Calls Tryz.prog 161 #[.string s, .int .u8 c] w fun e w' => e = .returned (.int .i64 (Lib.indexByte s.data.toList c.toNat.toUInt8)) ∧ w' = w := Any.strings_IndexByte Tryz.lays137 s c w
def Tryz.lays121_ren : Go.Shelf.Ren := ⟨fun | 121 => 68 | 214 => 124 | n => n, fun | 4 => 4 | 9 => 9 | n => n, fun | n => n⟩
theorem Tryz.lays121 : Go.Proofs.Lays.n121 Tryz.prog Tryz.lays121_ren := {
 mixed := by kernel_rfl
 f121 := Tryz.func68.trans (congrArg some (by kernel_rfl))
 f214 := Tryz.func124.trans (congrArg some (by kernel_rfl))
 t4 := Tryz.underlying4
 a4 := Tryz.isAgg4
 z4 := Tryz.sizeOf4
 v4 := Tryz.zeroValue4
 t9 := Tryz.underlying9
 a9 := Tryz.isAgg9
 z9 := Tryz.sizeOf9
 v9 := Tryz.zeroValue9 }
open Go.RowKit in
theorem Tryz.strconv_FormatBool (b : Bool) (w : World) :
 Calls Tryz.prog 68 #[.bool b] w fun e w' => e = .returned (.string ⟨(Lib.formatBool b).toArray⟩) ∧ w' = w := Any.strconv_FormatBool Tryz.lays121 b w
open Go.RowKit in
theorem Tryz.Builder_String_any_k (B b : Nat) (l : List UInt8) (w : World) (h : Lib.IsBuilderF 211 5 B b (Lib.byteCells l) w) (hBw : B ≤ w.heap.size) :
 Calls Tryz.prog 127 #[.pointer (some ⟨b, 0, none⟩)] w fun e w' => e = .returned (.string ⟨l.toArray⟩) ∧ (Lib.IsBuilderF 211 5 B b (Lib.byteCells l) w' ∧ Below B w w' ∧ Lib.OthersKept 5 (some b) w w') := Any.Builder_String_any_k Tryz.lays169 Tryz.Builder_Extra_169 B b l w h hBw
def Tryz.laysM171_ren : Go.Shelf.Ren := ⟨fun | 171 => 30 | 243 => 67 | 246 => 123 | 283 => 172 | 284 => 173 | 285 => 174 | 286 => 175 | 129 => 215 | 317 => 214 | 318 => 216 | 319 => 217 | 320 => 218 | 337 => 243 | 338 => 244 | n => n, fun | 3 => 3 | 9 => 9 | 2 => 2 | 4 => 4 | 171 => 256 | 0 => 0 | 53 => 64 | 37 => 71 | 5 => 5 | 173 => 259 | 212 => 306 | 51 => 195 | 20 => 20 | 213 => 307 | 46 => 119 | 232 => 361 | 233 => 362 | n => n, fun | 17 => 3 | 18 => 4 | 19 => 5 | n => n⟩
theorem Tryz.laysM171 : Go.Proofs.LaysM.n171 Tryz.prog Tryz.laysM171_ren := {
 mixed := by kernel_rfl
 f129 := Tryz.func215.trans (congrArg some (by kernel_rfl))
 f171 := Tryz.func30.trans (congrArg some (by kernel_rfl))
 f243 := Tryz.func67.trans (congrArg some (by kernel_rfl))
 f246 := Tryz.func123.trans (congrArg some (by kernel_rfl))
 f283 := Tryz.func172.trans (congrArg some (by kernel_rfl))
 f284 := Tryz.func173.trans (congrArg some (by kernel_rfl))
 f285 := Tryz.func174.trans (congrArg some (by kernel_rfl))
 f286 := Tryz.func175.trans (congrArg some (by kernel_rfl))
 f317 := Tryz.func214.trans (congrArg some (by kernel_rfl))
 f318 := Tryz.func216.trans (congrArg some (by kernel_rfl))
 f319 := Tryz.func217.trans (congrArg some (by kernel_rfl))
 f320 := Tryz.func218.trans (congrArg some (by kernel_rfl))
 f337 := Tryz.func243.trans (congrArg some (by kernel_rfl))
 f338 := Tryz.func244.trans (congrArg some (by kernel_rfl))
 t0 := Tryz.underlying0
 a0 := Tryz.isAgg0
 z0 := Tryz.sizeOf0
 v0 := Tryz.zeroValue0
 t2 := Tryz.underlying2
 a2 := Tryz.isAgg2
 z2 := Tryz.sizeOf2
 v2 := Tryz.zeroValue2
 t3 := Tryz.underlying3
 a3 := Tryz.isAgg3
 z3 := Tryz.sizeOf3
 v3 := Tryz.zeroValue3
 t4 := Tryz.underlying4
 a4 := Tryz.isAgg4
 z4 := Tryz.sizeOf4
 v4 := Tryz.zeroValue4
 t5 := Tryz.underlying5
 a5 := Tryz.isAgg5
 z5 := Tryz.sizeOf5
 v5 := Tryz.zeroValue5
 t9 := Tryz.underlying9
 a9 := Tryz.isAgg9
 z9 := Tryz.sizeOf9
 v9 := Tryz.zeroValue9
 t20 := Tryz.underlying20
 a20 := Tryz.isAgg20
 z20 := Tryz.sizeOf20
 v20 := Tryz.zeroValue20
 t37 := Tryz.underlying71
 a37 := Tryz.isAgg71
 z37 := Tryz.sizeOf71
 v37 := Tryz.zeroValue71
 t46 := Tryz.underlying119
 a46 := Tryz.isAgg119
 z46 := Tryz.sizeOf119
 v46 := Tryz.zeroValue119
 t51 := Tryz.underlying195
 a51 := Tryz.isAgg195
 z51 := Tryz.sizeOf195
 v51 := Tryz.zeroValue195
 t53 := Tryz.underlying64
 a53 := Tryz.isAgg64
 z53 := Tryz.sizeOf64
 v53 := Tryz.zeroValue64
 t171 := Tryz.underlying256
 a171 := Tryz.isAgg256
 z171 := Tryz.sizeOf256
 v171 := Tryz.zeroValue256
 t173 := Tryz.underlying259
 a173 := Tryz.isAgg259
 z173 := Tryz.sizeOf259
 v173 := Tryz.zeroValue259
 t212 := Tryz.underlying306
 a212 := Tryz.isAgg306
 z212 := Tryz.sizeOf306
 v212 := Tryz.zeroValue306
 t213 := Tryz.underlying307
 a213 := Tryz.isAgg307
 z213 := Tryz.sizeOf307
 t232 := Tryz.underlying361
 a232 := Tryz.isAgg361
 z232 := Tryz.sizeOf361
 v232 := Tryz.zeroValue361
 t233 := Tryz.underlying362
 a233 := Tryz.isAgg362
 z233 := Tryz.sizeOf362
 v233 := Tryz.zeroValue362
 g17 := by kernel_rfl
 g18 := by kernel_rfl
 g19 := by kernel_rfl
 i0 := by kernel_rfl
 i2 := by kernel_rfl
 i3 := by kernel_rfl
 i4 := by kernel_rfl
 i5 := by kernel_rfl
 i9 := by kernel_rfl
 i20 := by kernel_rfl
 i37 := by kernel_rfl
 i46 := by kernel_rfl
 i51 := by kernel_rfl
 i53 := by kernel_rfl
 i171 := by kernel_rfl
 i173 := by kernel_rfl
 i212 := by kernel_rfl
 i232 := by kernel_rfl
 i233 := by kernel_rfl
 m17 := by kernel_rfl
 m18 := by kernel_rfl
 m19 := by kernel_rfl }
open Go.RowKit Go.Sort Go.Lib in
theorem Tryz.strconv_Itoa (n : Int) (h0 : -9223372036854775808 ≤ n) (h1 : n ≤ 9223372036854775807) (w : World) (htab : Lib.TabIs Tryz.prog w "internal/strconv.uint64pow10" .u64 Lib.pow10Tab) :
 Calls Tryz.prog 30 #[.int .i64 n] w fun e w' => e = .returned (.string ⟨(Lib.itoa n).toArray⟩) ∧ ∃ k os, w' = grow (w.drewN k) os := Any.strconv_Itoa Tryz.laysM171 n h0 h1 w htab
def Tryz.laysC172_ren : Go.Shelf.Ren := ⟨fun | 172 => 55 | 244 => 112 | 245 => 113 | 247 => 162 | 279 => 163 | 280 => 164 | 281 => 165 | 282 => 166 | 287 => 210 | 316 => 211 | 171 => 30 | 205 => 212 | 321 => 241 | 322 => 242 | 243 => 67 | 246 => 123 | 283 => 172 | 284 => 173 | 285 => 174 | 286 => 175 | 129 => 215 | 317 => 214 | 318 => 216 | 319 => 217 | 320 => 218 | 337 => 243 | 338 => 244 | n => n, fun | 9 => 9 | 3 => 3 | 75 => 132 | 76 => 133 | 4 => 4 | 5 => 5 | 167 => 246 | 37 => 71 | 0 => 0 | 85 => 247 | 2 => 2 | 168 => 249 | 53 => 64 | 175 => 299 | 46 => 119 | 210 => 302 | 127 => 261 | 145 => 338 | 143 => 336 | 21 => 21 | 171 => 256 | 173 => 259 | 212 => 306 | 51 => 195 | 20 => 20 | 213 => 307 | 232 => 361 | 233 => 362 | 80 => 213 | n => n, fun | 15 => 1 | 16 => 2 | 17 => 3 | 18 => 4 | 19 => 5 | n => n⟩
theorem Tryz.laysC172 : Go.Proofs.LaysC.n172 Tryz.prog Tryz.laysC172_ren := {
 mixed := by kernel_rfl
 f129 := Tryz.func215.trans (congrArg some (by kernel_rfl))
 f171 := Tryz.func30.trans (congrArg some (by kernel_rfl))
 f172 := Tryz.func55.trans (congrArg some (by kernel_rfl))
 f205 := Tryz.func212.trans (congrArg some (by kernel_rfl))
 f243 := Tryz.func67.trans (congrArg some (by kernel_rfl))
 f244 := Tryz.func112.trans (congrArg some (by kernel_rfl))
 f245 := Tryz.func113.trans (congrArg some (by kernel_rfl))
 f246 := Tryz.func123.trans (congrArg some (by kernel_rfl))
 f247 := Tryz.func162.trans (congrArg some (by kernel_rfl))
 f279 := Tryz.func163.trans (congrArg some (by kernel_rfl))
 f280 := Tryz.func164.trans (congrArg some (by kernel_rfl))
 f281 := Tryz.func165.trans (congrArg some (by kernel_rfl))
 f282 := Tryz.func166.trans (congrArg some (by kernel_rfl))
 f283 := Tryz.func172.trans (congrArg some (by kernel_rfl))
 f284 := Tryz.func173.trans (congrArg some (by kernel_rfl))
 f285 := Tryz.func174.trans (congrArg some (by kernel_rfl))
 f286 := Tryz.func175.trans (congrArg some (by kernel_rfl))
 f287 := Tryz.func210.trans (congrArg some (by kernel_rfl))
 f316 := Tryz.func211.trans (congrArg some (by kernel_rfl))
 f317 := Tryz.func214.trans (congrArg some (by kernel_rfl))
 f318 := Tryz.func216.trans (congrArg some (by kernel_rfl))
 f319 := Tryz.func217.trans (congrArg some (by kernel_rfl))
 f320 := Tryz.func218.trans (congrArg some (by kernel_rfl))
 f321 := Tryz.func241.trans (congrArg some (by kernel_rfl))
 f322 := Tryz.func242.trans (congrArg some (by kernel_rfl))
 f337 := Tryz.func243.trans (congrArg some (by kernel_rfl))
 f338 := Tryz.func244.trans (congrArg some (by kernel_rfl))
 t0 := Tryz.underlying0
 a0 := Tryz.isAgg0
 z0 := Tryz.sizeOf0
 v0 := Tryz.zeroValue0
 t2 := Tryz.underlying2
 a2 := Tryz.isAgg2
 z2 := Tryz.sizeOf2
 v2 := Tryz.zeroValue2
 t3 := Tryz.underlying3
 a3 := Tryz.isAgg3
 z3 := Tryz.sizeOf3
 v3 := Tryz.zeroValue3
 t4 := Tryz.underlying4
 a4 := Tryz.isAgg4
 z4 := Tryz.sizeOf4
 v4 := Tryz.zeroValue4
 t5 := Tryz.underlying5
 a5 := Tryz.isAgg5
 z5 := Tryz.sizeOf5
 v5 := Tryz.zeroValue5
 t9 := Tryz.underlying9
 a9 := Tryz.isAgg9
 z9 := Tryz.sizeOf9
 v9 := Tryz.zeroValue9
 t20 := Tryz.underlying20
 a20 := Tryz.isAgg20
 z20 := Tryz.sizeOf20
 v20 := Tryz.zeroValue20
 t21 := Tryz.underlying21
 a21 := Tryz.isAgg21
 z21 := Tryz.sizeOf21
 v21 := Tryz.zeroValue21
 t37 := Tryz.underlying71
 a37 := Tryz.isAgg71
 z37 := Tryz.sizeOf71
 v37 := Tryz.zeroValue71
 t46 := Tryz.underlying119
 a46 := Tryz.isAgg119
 z46 := Tryz.sizeOf119
 v46 := Tryz.zeroValue119
 t51 := Tryz.underlying195
 a51 := Tryz.isAgg195
 z51 := Tryz.sizeOf195
 v51 := Tryz.zeroValue195
 t53 := Tryz.underlying64
 a53 := Tryz.isAgg64
 z53 := Tryz.sizeOf64
 v53 := Tryz.zeroValue64
 t75 := Tryz.underlying132
 a75 := Tryz.isAgg132
 z75 := Tryz.sizeOf132
 v75 := Tryz.zeroValue132
 t76 := Tryz.underlying133
 a76 := Tryz.isAgg133
 z76 := Tryz.sizeOf133
 v76 := Tryz.zeroValue133
 t85 := Tryz.underlying247
 a85 := Tryz.isAgg247
 z85 := Tryz.sizeOf247
 v85 := Tryz.zeroValue247
 t127 := Tryz.underlying261
 a127 := Tryz.isAgg261
 z127 := Tryz.sizeOf261
 v127 := Tryz.zeroValue261
 t143 := Tryz.underlying336
 a143 := Tryz.isAgg336
 z143 := Tryz.sizeOf336
 v143 := Tryz.zeroValue336
 t145 := Tryz.underlying338
 a145 := Tryz.isAgg338
 z145 := Tryz.sizeOf338
 v145 := Tryz.zeroValue338
 t167 := Tryz.underlying246
 a167 := Tryz.isAgg246
 z167 := Tryz.sizeOf246
 v167 := Tryz.zeroValue246
 t168 := Tryz.underlying249
 a168 := Tryz.isAgg249
 z168 := Tryz.sizeOf249
 v168 := Tryz.zeroValue249
 t171 := Tryz.underlying256
 a171 := Tryz.isAgg256
 z171 := Tryz.sizeOf256
 v171 := Tryz.zeroValue256
 t173 := Tryz.underlying259
 a173 := Tryz.isAgg259
 z173 := Tryz.sizeOf259
 v173 := Tryz.zeroValue259
 t175 := Tryz.underlying299
 a175 := Tryz.isAgg299
 z175 := Tryz.sizeOf299
 v175 := Tryz.zeroValue299
 t210 := Tryz.underlying302
 a210 := Tryz.isAgg302
 z210 := Tryz.sizeOf302
 v210 := Tryz.zeroValue302
 t212 := Tryz.underlying306
 a212 := Tryz.isAgg306
 z212 := Tryz.sizeOf306
 v212 := Tryz.zeroValue306
 t213 := Tryz.underlying307
 a213 := Tryz.isAgg307
 z213 := Tryz.sizeOf307
 t232 := Tryz.underlying361
 a232 := Tryz.isAgg361
 z232 := Tryz.sizeOf361
 v232 := Tryz.zeroValue361
 t233 := Tryz.underlying362
 a233 := Tryz.isAgg362
 z233 := Tryz.sizeOf362
 v233 := Tryz.zeroValue362
 g15 := by kernel_rfl
 g16 := by kernel_rfl
 g17 := by kernel_rfl
 g18 := by kernel_rfl
 g19 := by kernel_rfl
 t80 := Tryz.underlying213
 a80 := Tryz.isAgg213
 z80 := Tryz.sizeOf213
 v80 := Tryz.zeroValue213
 i0 := by kernel_rfl
 i2 := by kernel_rfl
 i3 := by kernel_rfl
 i4 := by kernel_rfl
 i5 := by kernel_rfl
 i9 := by kernel_rfl
 i20 := by kernel_rfl
 i21 := by kernel_rfl
 i37 := by kernel_rfl
 i46 := by kernel_rfl
 i51 := by kernel_rfl
 i53 := by kernel_rfl
 i75 := by kernel_rfl
 i76 := by kernel_rfl
 i80 := by kernel_rfl
 i85 := by kernel_rfl
 i127 := by kernel_rfl
 i143 := by kernel_rfl
 i145 := by kernel_rfl
 i167 := by kernel_rfl
 i168 := by kernel_rfl
 i171 := by kernel_rfl
 i173 := by kernel_rfl
 i175 := by kernel_rfl
 i210 := by kernel_rfl
 i212 := by kernel_rfl
 i232 := by kernel_rfl
 i233 := by kernel_rfl
 m15 := by kernel_rfl
 m16 := by kernel_rfl
 m17 := by kernel_rfl
 m18 := by kernel_rfl
 m19 := by kernel_rfl
 c0 := by kernel_rfl
 c2 := by kernel_rfl
 c3 := by kernel_rfl
 c4 := by kernel_rfl
 c5 := by kernel_rfl
 c9 := by kernel_rfl
 c20 := by kernel_rfl
 c21 := by kernel_rfl
 c37 := by kernel_rfl
 c46 := by kernel_rfl
 c51 := by kernel_rfl
 c53 := by kernel_rfl
 c75 := by kernel_rfl
 c76 := by kernel_rfl
 c80 := by kernel_rfl
 c85 := by kernel_rfl
 c127 := by kernel_rfl
 c143 := by kernel_rfl
 c145 := by kernel_rfl
 c167 := by kernel_rfl
 c168 := by kernel_rfl
 c171 := by kernel_rfl
 c173 := by kernel_rfl
 c175 := by kernel_rfl
 c210 := by kernel_rfl
 c212 := by kernel_rfl
 c213 := by kernel_rfl
 c232 := by kernel_rfl
 c233 := by kernel_rfl }
open Go.RowKit in
theorem Tryz.strconv_Atoi_ok (s : ByteArray) (hmax : s.size ≤ 9223372036854775806) (v : Int) (h : Lib.atoiAll s.data.toList = .ok v) (w : World) :
 Calls Tryz.prog 55 #[.string s] w fun e w' => e = .returned (.tuple #[.int .i64 v, .nilIface]) ∧ (w' = w ∨ ∃ t, w' = Lib.bytesWorld w 5 t) := Any.strconv_Atoi_ok Tryz.laysC172 s hmax v h w
open Go.RowKit in
theorem Tryz.strconv_Atoi_range (s : ByteArray) (hlim : s.size ≤ 281474976710656) (h : Lib.atoiAll s.data.toList = .range) (ev : Value) (w : World) (hv : w.cell? ⟨2, 0, none⟩ = some ev) (hev : ev = .nilIface ∨ ∃ te pe, ev = .iface te pe) :
 Calls Tryz.prog 55 #[.string s] w fun e w' => ∃ N, e = .returned (.tuple #[.int .i64 (Lib.atoiSat s.data.toList), .iface 249 (.pointer (some ⟨N, 0, none⟩))]) ∧ w.heap.size ≤ N ∧ w'.heap[N]? = some (.cells #[.string ⟨#[65, 116, 111, 105]⟩, .string s, ev] 302 (0, 0)) ∧ Below w.heap.size w w' := Any.strconv_Atoi_range Tryz.laysC172 s hlim h ev w hv hev
def Tryz.lays145_ren : Go.Shelf.Ren := ⟨fun | 145 => 51 | 220 => 110 | 219 => 156 | 217 => 202 | 225 => 203 | 224 => 204 | 267 => 205 | 266 => 238 | 314 => 239 | n => n, fun | 9 => 9 | 4 => 4 | 59 => 124 | 3 => 3 | 5 => 5 | 46 => 119 | 146 => 332 | 51 => 195 | n => n, fun | 1 => 0 | n => n⟩
theorem Tryz.lays145 : Go.Proofs.Lays.n145 Tryz.prog Tryz.lays145_ren := {
 mixed := by kernel_rfl
 f145 := Tryz.func51.trans (congrArg some (by kernel_rfl))
 f217 := Tryz.func202.trans (congrArg some (by kernel_rfl))
 f219 := Tryz.func156.trans (congrArg some (by kernel_rfl))
 f220 := Tryz.func110.trans (congrArg some (by kernel_rfl))
 f224 := Tryz.func204.trans (congrArg some (by kernel_rfl))
 f225 := Tryz.func203.trans (congrArg some (by kernel_rfl))
 f266 := Tryz.func238.trans (congrArg some (by kernel_rfl))
 f267 := Tryz.func205.trans (congrArg some (by kernel_rfl))
 f314 := Tryz.func239.trans (congrArg some (by kernel_rfl))
 t3 := Tryz.underlying3
 a3 := Tryz.isAgg3
 z3 := Tryz.sizeOf3
 v3 := Tryz.zeroValue3
 t4 := Tryz.underlying4
 a4 := Tryz.isAgg4
 z4 := Tryz.sizeOf4
 v4 := Tryz.zeroValue4
 t5 := Tryz.underlying5
 a5 := Tryz.isAgg5
 z5 := Tryz.sizeOf5
 v5 := Tryz.zeroValue5
 t9 := Tryz.underlying9
 a9 := Tryz.isAgg9
 z9 := Tryz.sizeOf9
 v9 := Tryz.zeroValue9
 t46 := Tryz.underlying119
 a46 := Tryz.isAgg119
 z46 := Tryz.sizeOf119
 v46 := Tryz.zeroValue119
 t51 := Tryz.underlying195
 a51 := Tryz.isAgg195
 z51 := Tryz.sizeOf195
 v51 := Tryz.zeroValue195
 t59 := Tryz.underlying124
 a59 := Tryz.isAgg124
 z59 := Tryz.sizeOf124
 v59 := Tryz.zeroValue124
 t146 := Tryz.underlying332
 a146 := Tryz.isAgg332
 z146 := Tryz.sizeOf332
 v146 := Tryz.zeroValue332
 g1 := by kernel_rfl }
open Go.RowKit Go.Lib in
theorem Tryz.strings_Cut (s sep : ByteArray) (m : Int) (w : World) (hs : s.size < 4294967281) (hm : w.cell? ⟨0, 0, none⟩ = some (.int .i64 m)) :
 Calls Tryz.prog 51 #[.string s, .string sep] w fun e w' => e = .returned (.tuple #[.string ⟨(Lib.cut s.data.toList sep.data.toList).1.toArray⟩, .string ⟨(Lib.cut s.data.toList sep.data.toList).2.1.toArray⟩, .bool (Lib.cut s.data.toList sep.data.toList).2.2]) ∧ ∃ n, w' = w.drewN n := Any.strings_Cut Tryz.lays145 s sep m w hs hm
def Tryz.laysM220_ren : Go.Shelf.Ren := ⟨fun | 220 => 110 | 219 => 156 | 217 => 202 | 225 => 203 | 224 => 204 | 267 => 205 | 266 => 238 | 314 => 239 | n => n, fun | 9 => 9 | 4 => 4 | 3 => 3 | 5 => 5 | 46 => 119 | 146 => 332 | 51 => 195 | n => n, fun | 1 => 0 | n => n⟩
theorem Tryz.laysM220 : Go.Proofs.LaysM.n220 Tryz.prog Tryz.laysM220_ren := {
 mixed := by kernel_rfl
 f217 := Tryz.func202.trans (congrArg some (by kernel_rfl))
 f219 := Tryz.func156.trans (congrArg some (by kernel_rfl))
 f220 := Tryz.func110.trans (congrArg some (by kernel_rfl))
 f224 := Tryz.func204.trans (congrArg some (by kernel_rfl))
 f225 := Tryz.func203.trans (congrArg some (by kernel_rfl))
 f266 := Tryz.func238.trans (congrArg some (by kernel_rfl))
 f267 := Tryz.func205.trans (congrArg some (by kernel_rfl))
 f314 := Tryz.func239.trans (congrArg some (by kernel_rfl))
 t3 := Tryz.underlying3
 a3 := Tryz.isAgg3
 z3 := Tryz.sizeOf3
 v3 := Tryz.zeroValue3
 t4 := Tryz.underlying4
 a4 := Tryz.isAgg4
 z4 := Tryz.sizeOf4
 v4 := Tryz.zeroValue4
 t5 := Tryz.underlying5
 a5 := Tryz.isAgg5
 z5 := Tryz.sizeOf5
 v5 := Tryz.zeroValue5
 t9 := Tryz.underlying9
 a9 := Tryz.isAgg9
 z9 := Tryz.sizeOf9
 v9 := Tryz.zeroValue9
 t46 := Tryz.underlying119
 a46 := Tryz.isAgg119
 z46 := Tryz.sizeOf119
 v46 := Tryz.zeroValue119
 t51 := Tryz.underlying195
 a51 := Tryz.isAgg195
 z51 := Tryz.sizeOf195
 v51 := Tryz.zeroValue195
 t146 := Tryz.underlying332
 a146 := Tryz.isAgg332
 z146 := Tryz.sizeOf332
 v146 := Tryz.zeroValue332
 g1 := by kernel_rfl
 i3 := by kernel_rfl
 i4 := by kernel_rfl
 i5 := by kernel_rfl
 i9 := by kernel_rfl
 i46 := by kernel_rfl
 i51 := by kernel_rfl
 i146 := by kernel_rfl
 m1 := by kernel_rfl
 s1_3 := fun w h => Go.Proofs.cell_of_shapedOpen_int (zero := #[.int .i64 0]) (t := 3) h (of_decide_eq_true (by kernel_rfl)) (by kernel_rfl) rfl (by kernel_rfl) (by kernel_rfl) Tryz.underlying3 }
def Tryz.lays99_ren : Go.Shelf.Ren := ⟨fun | 99 => 20 | 206 => 52 | n => n, fun | 9 => 9 | 4 => 4 | 3 => 3 | n => n, fun | n => n⟩
theorem Tryz.lays99 : Go.Proofs.Lays.n99 Tryz.prog Tryz.lays99_ren := {
 mixed := by kernel_rfl
 f99 := Tryz.func20.trans (congrArg some (by kernel_rfl))
 f206 := Tryz.func52.trans (congrArg some (by kernel_rfl))
 t3 := Tryz.underlying3
 a3 := Tryz.isAgg3
 z3 := Tryz.sizeOf3
 v3 := Tryz.zeroValue3
 t4 := Tryz.underlying4
 a4 := Tryz.isAgg4
 z4 := Tryz.sizeOf4
 v4 := Tryz.zeroValue4
 t9 := Tryz.underlying9
 a9 := Tryz.isAgg9
 z9 := Tryz.sizeOf9
 v9 := Tryz.zeroValue9 }
open Go.RowKit Go.Lib in
theorem Tryz.strings_HasPrefix (s p : ByteArray) (w : World) :
 Calls Tryz.prog 20 #[.string s, .string p] w fun e w' => e = .returned (.bool (Lib.hasPrefix s.data.toList p.data.toList)) ∧ w' = w := Any.strings_HasPrefix Tryz.lays99 s p w
def Tryz.lays109_ren : Go.Shelf.Ren := ⟨fun | 109 => 178 | n => n, fun | 31 => 22 | 9 => 9 | 3 => 3 | 0 => 0 | 4 => 4 | n => n, fun | n => n⟩
theorem Tryz.lays109 : Go.Proofs.Lays.n109 Tryz.prog Tryz.lays109_ren := {
 mixed := by kernel_rfl
 f109 := Tryz.func178.trans (congrArg some (by kernel_rfl))
 t0 := Tryz.underlying0
 a0 := Tryz.isAgg0
 z0 := Tryz.sizeOf0
 v0 := Tryz.zeroValue0
 t3 := Tryz.underlying3
 a3 := Tryz.isAgg3
 z3 := Tryz.sizeOf3
 v3 := Tryz.zeroValue3
 t4 := Tryz.underlying4
 a4 := Tryz.isAgg4
 z4 := Tryz.sizeOf4
 v4 := Tryz.zeroValue4
 t9 := Tryz.underlying9
 a9 := Tryz.isAgg9
 z9 := Tryz.sizeOf9
 v9 := Tryz.zeroValue9
 t31 := Tryz.underlying22
 a31 := Tryz.isAgg22
 z31 := Tryz.sizeOf22
 v31 := Tryz.zeroValue22 }
open Go.Lib in
theorem Tryz.slices_Index_string (b off n c : Nat) (zs : List ByteArray) (x : ByteArray) (w : World) (hz : n ≤ zs.length) (hbig : n ≤ 9223372036854775807) (hc : ∀ j, j < zs.length → w.cell? ⟨b, off + j, none⟩ = some (.string (zs.getD j ByteArray.empty))) :
 Calls Tryz.prog 178 #[.slice (some ⟨b, off, none⟩) n c, .string x] w fun e w' => e = .returned (.int .i64 (Lib.idxOfS (zs.take n) x)) ∧ w' = w := Any.slices_Index_string Tryz.lays109 b off n c zs x w hz hbig hc
end Go.Proofs
