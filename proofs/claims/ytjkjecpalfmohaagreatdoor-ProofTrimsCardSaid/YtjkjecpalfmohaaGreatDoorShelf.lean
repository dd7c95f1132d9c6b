/-
  Contracts of library functions at this program, in plain words (written by the shelf's tools).
-/
import Derived.Shelf.Strings.SlTrimAscii
import Derived.Shelf.SlSortCmp.WholeK
import Derived.Shelf.SlSortCmp.NoneTotal
import Derived.Shelf.Spec.SlicesGrow
import Derived.Shelf.Strings.Builder1
import Derived.Shelf.Strings.Trim
import Derived.Shelf.Small.Utf8
import Derived.Shelf.Small.Bits
import Derived.Shelf.Small.Strs
import Derived.Shelf.Utf8.RuneCount
import Derived.Shelf.Strconv.Atoi
import Derived.Shelf.Strconv.Itoa0
import Derived.Shelf.Strconv.Itoa1
import Derived.Shelf.LaysM
import Derived.Shelf.Strconv.Itoa2
import Derived.Shelf.Strconv.Itoa3
import Derived.Shelf.Strconv.AtoiErrFast
import Derived.Shelf.Strconv.ParseIntEmpty
import Derived.Shelf.Strconv.AtoiFail
import Derived.Shelf.Strconv.Clone
import Derived.Shelf.Strconv.SyntaxError
import Derived.Shelf.LaysC
import Derived.Shelf.Strconv.ToError
import Derived.Shelf.Strconv.AtoiErr
import Derived.Shelf.Strconv.ErrVar
import Derived.Shelf.Strconv.Lower
import Derived.Shelf.Strconv.ParseUint10
import Derived.Shelf.Strconv.ParseUint10Empty
import Derived.Shelf.Strconv.ParseUint10Any
import Derived.Shelf.Strconv.ParseInt10
import Derived.Shelf.Strconv.AtoiLong
import Derived.Shelf.Strconv.AtoiInnerAll
import Derived.Shelf.Strconv.RangeError
import Derived.Shelf.Strconv.ToErrorRange
import Derived.Shelf.Strconv.AtoiAll
import Derived.Shelf.Strconv.ErrVarAll
import Derived.Shelf.Strings.Search1
import Derived.Shelf.Strings.Search2
import Derived.Shelf.Strings.Search3
import Derived.Shelf.Strings.Cut
import Derived.Shelf.Strings.Count
import Derived.Shelf.Strings.Shaped
import Derived.Shelf.Sort.Plain
import Derived.Shelf.Strings.Split
import Derived.Shelf.Strings.SplitShaped
import Derived.Shelf.Unicode.Decode
import Derived.Shelf.Strings.Runes
import Derived.Shelf.Strings.RuneCount
import Derived.Shelf.Strings.AsciiSet
import Derived.Shelf.Strings.Explode
import Derived.Shelf.Unicode.DecodeSlow
import Derived.Shelf.Unicode.DecodeAny
import Derived.Shelf.Unicode.DecodeLast
import Derived.Ground.Names2Prog
import Derived.Shelf.Slices.Clone
import Derived.Shelf.Slices.CompactI
import Derived.Shelf.Slices.SearchI
import Derived.Shelf.Slices.Cells
import Derived.Shelf.Slices.In.SortNone
import Derived.Ground.SlgnProg
import Derived.Shelf.SlicesE.Clone
import Derived.Test.YtjkjecpalfmohaaGreatDoorProg
namespace Go.Proofs
open Go.Shelf
def Tryz.lays160_ren : Go.Shelf.Ren := ⟨fun | 160 => 165 | 232 => 253 | 231 => 252 | 227 => 254 | 234 => 256 | 233 => 255 | 236 => 258 | 235 => 257 | 228 => 336 | 271 => 338 | 151 => 337 | 197 => 230 | 120 => 369 | 152 => 368 | 260 => 310 | 137 => 383 | 119 => 384 | 224 => 228 | 225 => 227 | 217 => 226 | 266 => 308 | n => n, fun | 9 => 9 | 4 => 4 | 3 => 3 | 5 => 5 | 117 => 236 | 116 => 235 | 0 => 0 | 124 => 239 | 21 => 21 | 105 => 217 | 46 => 125 | 119 => 313 | 139 => 316 | 138 => 315 | n => n, fun | 3 => 4 | 4 => 5 | n => n⟩
theorem Tryz.lays160 : Go.Proofs.Lays.n160 Tryz.prog Tryz.lays160_ren := {
  mixed := by kernel_rfl
  f119 := Tryz.func384.trans (congrArg some (by kernel_rfl))
  f120 := Tryz.func369.trans (congrArg some (by kernel_rfl))
  f137 := Tryz.func383.trans (congrArg some (by kernel_rfl))
  f151 := Tryz.func337.trans (congrArg some (by kernel_rfl))
  f152 := Tryz.func368.trans (congrArg some (by kernel_rfl))
  f160 := Tryz.func165.trans (congrArg some (by kernel_rfl))
  f197 := Tryz.func230.trans (congrArg some (by kernel_rfl))
  f217 := Tryz.func226.trans (congrArg some (by kernel_rfl))
  f224 := Tryz.func228.trans (congrArg some (by kernel_rfl))
  f225 := Tryz.func227.trans (congrArg some (by kernel_rfl))
  f227 := Tryz.func254.trans (congrArg some (by kernel_rfl))
  f228 := Tryz.func336.trans (congrArg some (by kernel_rfl))
  f231 := Tryz.func252.trans (congrArg some (by kernel_rfl))
  f232 := Tryz.func253.trans (congrArg some (by kernel_rfl))
  f233 := Tryz.func255.trans (congrArg some (by kernel_rfl))
  f234 := Tryz.func256.trans (congrArg some (by kernel_rfl))
  f235 := Tryz.func257.trans (congrArg some (by kernel_rfl))
  f236 := Tryz.func258.trans (congrArg some (by kernel_rfl))
  f260 := Tryz.func310.trans (congrArg some (by kernel_rfl))
  f266 := Tryz.func308.trans (congrArg some (by kernel_rfl))
  f271 := Tryz.func338.trans (congrArg some (by kernel_rfl))
  t0 := Tryz.underlying0
  a0 := Tryz.isAgg0
  z0 := Tryz.sizeOf0
  v0 := Tryz.zeroValue0
  t3 := Tryz.underlying3
  a3 := Tryz.isAgg3
  z3 := Tryz.sizeOf3
  v3 := Tryz.zeroValue3
  t4 := Tryz.underlying4
  a4 := Tryz.isAgg4
  z4 := Tryz.sizeOf4
  v4 := Tryz.zeroValue4
  t5 := Tryz.underlying5
  a5 := Tryz.isAgg5
  z5 := Tryz.sizeOf5
  v5 := Tryz.zeroValue5
  t9 := Tryz.underlying9
  a9 := Tryz.isAgg9
  z9 := Tryz.sizeOf9
  v9 := Tryz.zeroValue9
  t21 := Tryz.underlying21
  a21 := Tryz.isAgg21
  z21 := Tryz.sizeOf21
  v21 := Tryz.zeroValue21
  t46 := Tryz.underlying125
  a46 := Tryz.isAgg125
  z46 := Tryz.sizeOf125
  v46 := Tryz.zeroValue125
  t105 := Tryz.underlying217
  a105 := Tryz.isAgg217
  z105 := Tryz.sizeOf217
  v105 := Tryz.zeroValue217
  t116 := Tryz.underlying235
  a116 := Tryz.isAgg235
  z116 := Tryz.sizeOf235
  t117 := Tryz.underlying236
  a117 := Tryz.isAgg236
  z117 := Tryz.sizeOf236
  v117 := Tryz.zeroValue236
  t119 := Tryz.underlying313
  a119 := Tryz.isAgg313
  z119 := Tryz.sizeOf313
  t124 := Tryz.underlying239
  a124 := Tryz.isAgg239
  z124 := Tryz.sizeOf239
  v124 := Tryz.zeroValue239
  t138 := Tryz.underlying315
  a138 := Tryz.isAgg315
  z138 := Tryz.sizeOf315
  v138 := Tryz.zeroValue315
  t139 := Tryz.underlying316
  a139 := Tryz.isAgg316
  z139 := Tryz.sizeOf316
  v139 := Tryz.zeroValue316
  g3 := by kernel_rfl
  g4 := by kernel_rfl }
def Tryz.lays106_ren : Go.Shelf.Ren := ⟨fun | 106 => 126 | 213 => 206 | 265 => 291 | n => n, fun | 9 => 9 | 3 => 3 | n => n, fun | n => n⟩
theorem Tryz.lays106 : Go.Proofs.Lays.n106 Tryz.prog Tryz.lays106_ren := {
  mixed := by kernel_rfl
  f106 := Tryz.func126.trans (congrArg some (by kernel_rfl))
  f213 := Tryz.func206.trans (congrArg some (by kernel_rfl))
  f265 := Tryz.func291.trans (congrArg some (by kernel_rfl))
  t3 := Tryz.underlying3
  a3 := Tryz.isAgg3
  z3 := Tryz.sizeOf3
  v3 := Tryz.zeroValue3
  t9 := Tryz.underlying9
  a9 := Tryz.isAgg9
  z9 := Tryz.sizeOf9
  v9 := Tryz.zeroValue9 }
open Go.RowKit in
theorem Tryz.strings_Compare (a b : ByteArray) (w : World) :
    Calls Tryz.prog 126 #[.string a, .string b] w fun e w' => e = .returned (.int .i64 (Lib.compareBytes a.data.toList b.data.toList)) ∧ w' = w := Any.strings_Compare Tryz.lays106 a b w
def Tryz.laysM171_ren : Go.Shelf.Ren := ⟨fun | 171 => 154 | 243 => 240 | 246 => 317 | 283 => 358 | 284 => 359 | 285 => 360 | 286 => 361 | 129 => 181 | 317 => 374 | 318 => 375 | 319 => 376 | 320 => 377 | 337 => 388 | 338 => 389 | n => n, fun | 3 => 3 | 9 => 9 | 2 => 2 | 4 => 4 | 171 => 321 | 0 => 0 | 53 => 192 | 37 => 109 | 5 => 5 | 173 => 323 | 212 => 337 | 51 => 190 | 20 => 20 | 213 => 338 | 46 => 125 | 232 => 347 | 233 => 348 | n => n, fun | 17 => 6 | 18 => 7 | 19 => 8 | n => n⟩
theorem Tryz.laysM171 : Go.Proofs.LaysM.n171 Tryz.prog Tryz.laysM171_ren := {
  mixed := by kernel_rfl
  f129 := Tryz.func181.trans (congrArg some (by kernel_rfl))
  f171 := Tryz.func154.trans (congrArg some (by kernel_rfl))
  f243 := Tryz.func240.trans (congrArg some (by kernel_rfl))
  f246 := Tryz.func317.trans (congrArg some (by kernel_rfl))
  f283 := Tryz.func358.trans (congrArg some (by kernel_rfl))
  f284 := Tryz.func359.trans (congrArg some (by kernel_rfl))
  f285 := Tryz.func360.trans (congrArg some (by kernel_rfl))
  f286 := Tryz.func361.trans (congrArg some (by kernel_rfl))
  f317 := Tryz.func374.trans (congrArg some (by kernel_rfl))
  f318 := Tryz.func375.trans (congrArg some (by kernel_rfl))
  f319 := Tryz.func376.trans (congrArg some (by kernel_rfl))
  f320 := Tryz.func377.trans (congrArg some (by kernel_rfl))
  f337 := Tryz.func388.trans (congrArg some (by kernel_rfl))
  f338 := Tryz.func389.trans (congrArg some (by kernel_rfl))
  t0 := Tryz.underlying0
  a0 := Tryz.isAgg0
  z0 := Tryz.sizeOf0
  v0 := Tryz.zeroValue0
  t2 := Tryz.underlying2
  a2 := Tryz.isAgg2
  z2 := Tryz.sizeOf2
  v2 := Tryz.zeroValue2
  t3 := Tryz.underlying3
  a3 := Tryz.isAgg3
  z3 := Tryz.sizeOf3
  v3 := Tryz.zeroValue3
  t4 := Tryz.underlying4
  a4 := Tryz.isAgg4
  z4 := Tryz.sizeOf4
  v4 := Tryz.zeroValue4
  t5 := Tryz.underlying5
  a5 := Tryz.isAgg5
  z5 := Tryz.sizeOf5
  v5 := Tryz.zeroValue5
  t9 := Tryz.underlying9
  a9 := Tryz.isAgg9
  z9 := Tryz.sizeOf9
  v9 := Tryz.zeroValue9
  t20 := Tryz.underlying20
  a20 := Tryz.isAgg20
  z20 := Tryz.sizeOf20
  v20 := Tryz.zeroValue20
  t37 := Tryz.underlying109
  a37 := Tryz.isAgg109
  z37 := Tryz.sizeOf109
  v37 := Tryz.zeroValue109
  t46 := Tryz.underlying125
  a46 := Tryz.isAgg125
  z46 := Tryz.sizeOf125
  v46 := Tryz.zeroValue125
  t51 := Tryz.underlying190
  a51 := Tryz.isAgg190
  z51 := Tryz.sizeOf190
  v51 := Tryz.zeroValue190
  t53 := Tryz.underlying192
  a53 := Tryz.isAgg192
  z53 := Tryz.sizeOf192
  v53 := Tryz.zeroValue192
  t171 := Tryz.underlying321
  a171 := Tryz.isAgg321
  z171 := Tryz.sizeOf321
  v171 := Tryz.zeroValue321
  t173 := Tryz.underlying323
  a173 := Tryz.isAgg323
  z173 := Tryz.sizeOf323
  v173 := Tryz.zeroValue323
  t212 := Tryz.underlying337
  a212 := Tryz.isAgg337
  z212 := Tryz.sizeOf337
  v212 := Tryz.zeroValue337
  t213 := Tryz.underlying338
  a213 := Tryz.isAgg338
  z213 := Tryz.sizeOf338
  t232 := Tryz.underlying347
  a232 := Tryz.isAgg347
  z232 := Tryz.sizeOf347
  v232 := Tryz.zeroValue347
  t233 := Tryz.underlying348
  a233 := Tryz.isAgg348
  z233 := Tryz.sizeOf348
  v233 := Tryz.zeroValue348
  g17 := by kernel_rfl
  g18 := by kernel_rfl
  g19 := by kernel_rfl
  i0 := by kernel_rfl
  i2 := by kernel_rfl
  i3 := by kernel_rfl
  i4 := by kernel_rfl
  i5 := by kernel_rfl
  i9 := by kernel_rfl
  i20 := by kernel_rfl
  i37 := by kernel_rfl
  i46 := by kernel_rfl
  i51 := by kernel_rfl
  i53 := by kernel_rfl
  i171 := by kernel_rfl
  i173 := by kernel_rfl
  i212 := by kernel_rfl
  i232 := by kernel_rfl
  i233 := by kernel_rfl
  m17 := by kernel_rfl
  m18 := by kernel_rfl
  m19 := by kernel_rfl }
open Go.RowKit Go.Sort Go.Lib in
theorem Tryz.strconv_Itoa (n : Int) (h0 : -9223372036854775808 ≤ n) (h1 : n ≤ 9223372036854775807) (w : World) (htab : Lib.TabIs Tryz.prog w "internal/strconv.uint64pow10" .u64 Lib.pow10Tab) :
    Calls Tryz.prog 154 #[.int .i64 n] w fun e w' => e = .returned (.string ⟨(Lib.itoa n).toArray⟩) ∧ ∃ k os, w' = grow (w.drewN k) os := Any.strconv_Itoa Tryz.laysM171 n h0 h1 w htab
def Tryz.laysC172_ren : Go.Shelf.Ren := ⟨fun | 172 => 84 | 244 => 151 | 245 => 152 | 247 => 234 | 279 => 235 | 280 => 236 | 281 => 237 | 282 => 238 | 287 => 313 | 316 => 314 | 171 => 154 | 205 => 315 | 321 => 356 | 322 => 357 | 243 => 240 | 246 => 317 | 283 => 358 | 284 => 359 | 285 => 360 | 286 => 361 | 129 => 181 | 317 => 374 | 318 => 375 | 319 => 376 | 320 => 377 | 337 => 388 | 338 => 389 | n => n, fun | 9 => 9 | 3 => 3 | 75 => 105 | 76 => 106 | 4 => 4 | 5 => 5 | 167 => 221 | 37 => 109 | 0 => 0 | 85 => 222 | 2 => 2 | 168 => 224 | 53 => 192 | 175 => 278 | 46 => 125 | 210 => 281 | 127 => 166 | 145 => 320 | 143 => 318 | 21 => 21 | 171 => 321 | 173 => 323 | 212 => 337 | 51 => 190 | 20 => 20 | 213 => 338 | 232 => 347 | 233 => 348 | 80 => 114 | n => n, fun | 15 => 2 | 16 => 3 | 17 => 6 | 18 => 7 | 19 => 8 | n => n⟩
theorem Tryz.laysC172 : Go.Proofs.LaysC.n172 Tryz.prog Tryz.laysC172_ren := {
  mixed := by kernel_rfl
  f129 := Tryz.func181.trans (congrArg some (by kernel_rfl))
  f171 := Tryz.func154.trans (congrArg some (by kernel_rfl))
  f172 := Tryz.func84.trans (congrArg some (by kernel_rfl))
  f205 := Tryz.func315.trans (congrArg some (by kernel_rfl))
  f243 := Tryz.func240.trans (congrArg some (by kernel_rfl))
  f244 := Tryz.func151.trans (congrArg some (by kernel_rfl))
  f245 := Tryz.func152.trans (congrArg some (by kernel_rfl))
  f246 := Tryz.func317.trans (congrArg some (by kernel_rfl))
  f247 := Tryz.func234.trans (congrArg some (by kernel_rfl))
  f279 := Tryz.func235.trans (congrArg some (by kernel_rfl))
  f280 := Tryz.func236.trans (congrArg some (by kernel_rfl))
  f281 := Tryz.func237.trans (congrArg some (by kernel_rfl))
  f282 := Tryz.func238.trans (congrArg some (by kernel_rfl))
  f283 := Tryz.func358.trans (congrArg some (by kernel_rfl))
  f284 := Tryz.func359.trans (congrArg some (by kernel_rfl))
  f285 := Tryz.func360.trans (congrArg some (by kernel_rfl))
  f286 := Tryz.func361.trans (congrArg some (by kernel_rfl))
  f287 := Tryz.func313.trans (congrArg some (by kernel_rfl))
  f316 := Tryz.func314.trans (congrArg some (by kernel_rfl))
  f317 := Tryz.func374.trans (congrArg some (by kernel_rfl))
  f318 := Tryz.func375.trans (congrArg some (by kernel_rfl))
  f319 := Tryz.func376.trans (congrArg some (by kernel_rfl))
  f320 := Tryz.func377.trans (congrArg some (by kernel_rfl))
  f321 := Tryz.func356.trans (congrArg some (by kernel_rfl))
  f322 := Tryz.func357.trans (congrArg some (by kernel_rfl))
  f337 := Tryz.func388.trans (congrArg some (by kernel_rfl))
  f338 := Tryz.func389.trans (congrArg some (by kernel_rfl))
  t0 := Tryz.underlying0
  a0 := Tryz.isAgg0
  z0 := Tryz.sizeOf0
  v0 := Tryz.zeroValue0
  t2 := Tryz.underlying2
  a2 := Tryz.isAgg2
  z2 := Tryz.sizeOf2
  v2 := Tryz.zeroValue2
  t3 := Tryz.underlying3
  a3 := Tryz.isAgg3
  z3 := Tryz.sizeOf3
  v3 := Tryz.zeroValue3
  t4 := Tryz.underlying4
  a4 := Tryz.isAgg4
  z4 := Tryz.sizeOf4
  v4 := Tryz.zeroValue4
  t5 := Tryz.underlying5
  a5 := Tryz.isAgg5
  z5 := Tryz.sizeOf5
  v5 := Tryz.zeroValue5
  t9 := Tryz.underlying9
  a9 := Tryz.isAgg9
  z9 := Tryz.sizeOf9
  v9 := Tryz.zeroValue9
  t20 := Tryz.underlying20
  a20 := Tryz.isAgg20
  z20 := Tryz.sizeOf20
  v20 := Tryz.zeroValue20
  t21 := Tryz.underlying21
  a21 := Tryz.isAgg21
  z21 := Tryz.sizeOf21
  v21 := Tryz.zeroValue21
  t37 := Tryz.underlying109
  a37 := Tryz.isAgg109
  z37 := Tryz.sizeOf109
  v37 := Tryz.zeroValue109
  t46 := Tryz.underlying125
  a46 := Tryz.isAgg125
  z46 := Tryz.sizeOf125
  v46 := Tryz.zeroValue125
  t51 := Tryz.underlying190
  a51 := Tryz.isAgg190
  z51 := Tryz.sizeOf190
  v51 := Tryz.zeroValue190
  t53 := Tryz.underlying192
  a53 := Tryz.isAgg192
  z53 := Tryz.sizeOf192
  v53 := Tryz.zeroValue192
  t75 := Tryz.underlying105
  a75 := Tryz.isAgg105
  z75 := Tryz.sizeOf105
  v75 := Tryz.zeroValue105
  t76 := Tryz.underlying106
  a76 := Tryz.isAgg106
  z76 := Tryz.sizeOf106
  v76 := Tryz.zeroValue106
  t85 := Tryz.underlying222
  a85 := Tryz.isAgg222
  z85 := Tryz.sizeOf222
  v85 := Tryz.zeroValue222
  t127 := Tryz.underlying166
  a127 := Tryz.isAgg166
  z127 := Tryz.sizeOf166
  v127 := Tryz.zeroValue166
  t143 := Tryz.underlying318
  a143 := Tryz.isAgg318
  z143 := Tryz.sizeOf318
  v143 := Tryz.zeroValue318
  t145 := Tryz.underlying320
  a145 := Tryz.isAgg320
  z145 := Tryz.sizeOf320
  v145 := Tryz.zeroValue320
  t167 := Tryz.underlying221
  a167 := Tryz.isAgg221
  z167 := Tryz.sizeOf221
  v167 := Tryz.zeroValue221
  t168 := Tryz.underlying224
  a168 := Tryz.isAgg224
  z168 := Tryz.sizeOf224
  v168 := Tryz.zeroValue224
  t171 := Tryz.underlying321
  a171 := Tryz.isAgg321
  z171 := Tryz.sizeOf321
  v171 := Tryz.zeroValue321
  t173 := Tryz.underlying323
  a173 := Tryz.isAgg323
  z173 := Tryz.sizeOf323
  v173 := Tryz.zeroValue323
  t175 := Tryz.underlying278
  a175 := Tryz.isAgg278
  z175 := Tryz.sizeOf278
  v175 := Tryz.zeroValue278
  t210 := Tryz.underlying281
  a210 := Tryz.isAgg281
  z210 := Tryz.sizeOf281
  v210 := Tryz.zeroValue281
  t212 := Tryz.underlying337
  a212 := Tryz.isAgg337
  z212 := Tryz.sizeOf337
  v212 := Tryz.zeroValue337
  t213 := Tryz.underlying338
  a213 := Tryz.isAgg338
  z213 := Tryz.sizeOf338
  t232 := Tryz.underlying347
  a232 := Tryz.isAgg347
  z232 := Tryz.sizeOf347
  v232 := Tryz.zeroValue347
  t233 := Tryz.underlying348
  a233 := Tryz.isAgg348
  z233 := Tryz.sizeOf348
  v233 := Tryz.zeroValue348
  g15 := by kernel_rfl
  g16 := by kernel_rfl
  g17 := by kernel_rfl
  g18 := by kernel_rfl
  g19 := by kernel_rfl
  t80 := Tryz.underlying114
  a80 := Tryz.isAgg114
  z80 := Tryz.sizeOf114
  v80 := Tryz.zeroValue114
  i0 := by kernel_rfl
  i2 := by kernel_rfl
  i3 := by kernel_rfl
  i4 := by kernel_rfl
  i5 := by kernel_rfl
  i9 := by kernel_rfl
  i20 := by kernel_rfl
  i21 := by kernel_rfl
  i37 := by kernel_rfl
  i46 := by kernel_rfl
  i51 := by kernel_rfl
  i53 := by kernel_rfl
  i75 := by kernel_rfl
  i76 := by kernel_rfl
  i80 := by kernel_rfl
  i85 := by kernel_rfl
  i127 := by kernel_rfl
  i143 := by kernel_rfl
  i145 := by kernel_rfl
  i167 := by kernel_rfl
  i168 := by kernel_rfl
  i171 := by kernel_rfl
  i173 := by kernel_rfl
  i175 := by kernel_rfl
  i210 := by kernel_rfl
  i212 := by kernel_rfl
  i232 := by kernel_rfl
  i233 := by kernel_rfl
  m15 := by kernel_rfl
  m16 := by kernel_rfl
  m17 := by kernel_rfl
  m18 := by kernel_rfl
  m19 := by kernel_rfl
  c0 := by kernel_rfl
  c2 := by kernel_rfl
  c3 := by kernel_rfl
  c4 := by kernel_rfl
  c5 := by kernel_rfl
  c9 := by kernel_rfl
  c20 := by kernel_rfl
  c21 := by kernel_rfl
  c37 := by kernel_rfl
  c46 := by kernel_rfl
  c51 := by kernel_rfl
  c53 := by kernel_rfl
  c75 := by kernel_rfl
  c76 := by kernel_rfl
  c80 := by kernel_rfl
  c85 := by kernel_rfl
  c127 := by kernel_rfl
  c143 := by kernel_rfl
  c145 := by kernel_rfl
  c167 := by kernel_rfl
  c168 := by kernel_rfl
  c171 := by kernel_rfl
  c173 := by kernel_rfl
  c175 := by kernel_rfl
  c210 := by kernel_rfl
  c212 := by kernel_rfl
  c213 := by kernel_rfl
  c232 := by kernel_rfl
  c233 := by kernel_rfl }
open Go.RowKit in
theorem Tryz.strconv_Atoi_ok (s : ByteArray) (hmax : s.size ≤ 9223372036854775806) (v : Int) (h : Lib.atoiAll s.data.toList = .ok v) (w : World) :
    Calls Tryz.prog 84 #[.string s] w fun e w' => e = .returned (.tuple #[.int .i64 v, .nilIface]) ∧ (w' = w ∨ ∃ t, w' = Lib.bytesWorld w 5 t) := Any.strconv_Atoi_ok Tryz.laysC172 s hmax v h w
open Go.RowKit in
theorem Tryz.strconv_Atoi_syntax_var (s : ByteArray) (hlim : s.size ≤ 281474976710656) (h : Lib.atoiAll s.data.toList = Lib.NumEnd.syntax) (tp : TypeId) (p : Value) (w : World) (hvar : w.var? Tryz.prog "strconv.ErrSyntax" = some #[.iface tp p]) :
    Calls Tryz.prog 84 #[.string s] w fun e w' => ∃ N, e = .returned (.tuple #[.int .i64 0, .iface 224 (.pointer (some ⟨N, 0, none⟩))]) ∧ w.heap.size ≤ N ∧ w'.heap[N]? = some (.cells #[.string ⟨#[65, 116, 111, 105]⟩, .string s, .iface tp p] 281 (0, 0)) ∧ Below w.heap.size w w' := Any.strconv_Atoi_syntax_var Tryz.laysC172 s hlim h tp p w hvar
open Go.RowKit in
theorem Tryz.strconv_Atoi_range_var (s : ByteArray) (hlim : s.size ≤ 281474976710656) (h : Lib.atoiAll s.data.toList = .range) (tp : TypeId) (p : Value) (w : World) (hvar : w.var? Tryz.prog "strconv.ErrRange" = some #[.iface tp p]) :
    Calls Tryz.prog 84 #[.string s] w fun e w' => ∃ N, e = .returned (.tuple #[.int .i64 (Lib.atoiSat s.data.toList), .iface 224 (.pointer (some ⟨N, 0, none⟩))]) ∧ w.heap.size ≤ N ∧ w'.heap[N]? = some (.cells #[.string ⟨#[65, 116, 111, 105]⟩, .string s, .iface tp p] 281 (0, 0)) ∧ Below w.heap.size w w' := Any.strconv_Atoi_range_var Tryz.laysC172 s hlim h tp p w hvar
def Tryz.lays217_ren : Go.Shelf.Ren := ⟨fun | 217 => 226 | 266 => 308 | n => n, fun | 9 => 9 | 5 => 5 | 3 => 3 | n => n, fun | n => n⟩
theorem Tryz.lays217 : Go.Proofs.Lays.n217 Tryz.prog Tryz.lays217_ren := {
  mixed := by kernel_rfl
  f217 := Tryz.func226.trans (congrArg some (by kernel_rfl))
  f266 := Tryz.func308.trans (congrArg some (by kernel_rfl))
  t3 := Tryz.underlying3
  a3 := Tryz.isAgg3
  z3 := Tryz.sizeOf3
  v3 := Tryz.zeroValue3
  t5 := Tryz.underlying5
  a5 := Tryz.isAgg5
  z5 := Tryz.sizeOf5
  v5 := Tryz.zeroValue5
  t9 := Tryz.underlying9
  a9 := Tryz.isAgg9
  z9 := Tryz.sizeOf9
  v9 := Tryz.zeroValue9 }
open Go.RowKit Go.Lib in
theorem Tryz.stringslite_IndexByte (s : ByteArray) (c : Int) (w : World) :
    Calls Tryz.prog 226 #[.string s, .int .u8 c] w fun e w' => e = .returned (.int .i64 (Lib.indexByte s.data.toList c.toNat.toUInt8)) ∧ w' = w := Any.stringslite_IndexByte Tryz.lays217 s c w
def Tryz.lays219_ren : Go.Shelf.Ren := ⟨fun | 219 => 147 | 217 => 226 | 225 => 227 | 224 => 228 | 267 => 229 | 266 => 308 | 314 => 309 | n => n, fun | 9 => 9 | 3 => 3 | 4 => 4 | 5 => 5 | 46 => 125 | 146 => 276 | 51 => 190 | n => n, fun | 1 => 0 | n => n⟩
theorem Tryz.lays219 : Go.Proofs.Lays.n219 Tryz.prog Tryz.lays219_ren := {
  mixed := by kernel_rfl
  f217 := Tryz.func226.trans (congrArg some (by kernel_rfl))
  f219 := Tryz.func147.trans (congrArg some (by kernel_rfl))
  f224 := Tryz.func228.trans (congrArg some (by kernel_rfl))
  f225 := Tryz.func227.trans (congrArg some (by kernel_rfl))
  f266 := Tryz.func308.trans (congrArg some (by kernel_rfl))
  f267 := Tryz.func229.trans (congrArg some (by kernel_rfl))
  f314 := Tryz.func309.trans (congrArg some (by kernel_rfl))
  t3 := Tryz.underlying3
  a3 := Tryz.isAgg3
  z3 := Tryz.sizeOf3
  v3 := Tryz.zeroValue3
  t4 := Tryz.underlying4
  a4 := Tryz.isAgg4
  z4 := Tryz.sizeOf4
  v4 := Tryz.zeroValue4
  t5 := Tryz.underlying5
  a5 := Tryz.isAgg5
  z5 := Tryz.sizeOf5
  v5 := Tryz.zeroValue5
  t9 := Tryz.underlying9
  a9 := Tryz.isAgg9
  z9 := Tryz.sizeOf9
  v9 := Tryz.zeroValue9
  t46 := Tryz.underlying125
  a46 := Tryz.isAgg125
  z46 := Tryz.sizeOf125
  v46 := Tryz.zeroValue125
  t51 := Tryz.underlying190
  a51 := Tryz.isAgg190
  z51 := Tryz.sizeOf190
  v51 := Tryz.zeroValue190
  t146 := Tryz.underlying276
  a146 := Tryz.isAgg276
  z146 := Tryz.sizeOf276
  v146 := Tryz.zeroValue276
  g1 := by kernel_rfl }
open Go.RowKit Go.Lib in
theorem Tryz.stringslite_Index (s sub : ByteArray) (m : Int) (w : World) (hs : s.size < 4294967281) (hm : w.cell? ⟨0, 0, none⟩ = some (.int .i64 m)) :
    Calls Tryz.prog 147 #[.string s, .string sub] w fun e w' => e = .returned (.int .i64 (Lib.index s.data.toList sub.data.toList)) ∧ w' = w := Any.stringslite_Index Tryz.lays219 s sub m w hs hm
def Tryz.lays138_ren : Go.Shelf.Ren := ⟨fun | 138 => 38 | 195 => 77 | 218 => 78 | 143 => 79 | 219 => 147 | 217 => 226 | 225 => 227 | 224 => 228 | 267 => 229 | 266 => 308 | 314 => 309 | n => n, fun | 9 => 9 | 3 => 3 | 4 => 4 | 5 => 5 | 0 => 0 | 46 => 125 | 146 => 276 | 51 => 190 | n => n, fun | 1 => 0 | n => n⟩
theorem Tryz.lays138 : Go.Proofs.Lays.n138 Tryz.prog Tryz.lays138_ren := {
  mixed := by kernel_rfl
  f138 := Tryz.func38.trans (congrArg some (by kernel_rfl))
  f143 := Tryz.func79.trans (congrArg some (by kernel_rfl))
  f195 := Tryz.func77.trans (congrArg some (by kernel_rfl))
  f217 := Tryz.func226.trans (congrArg some (by kernel_rfl))
  f218 := Tryz.func78.trans (congrArg some (by kernel_rfl))
  f219 := Tryz.func147.trans (congrArg some (by kernel_rfl))
  f224 := Tryz.func228.trans (congrArg some (by kernel_rfl))
  f225 := Tryz.func227.trans (congrArg some (by kernel_rfl))
  f266 := Tryz.func308.trans (congrArg some (by kernel_rfl))
  f267 := Tryz.func229.trans (congrArg some (by kernel_rfl))
  f314 := Tryz.func309.trans (congrArg some (by kernel_rfl))
  t0 := Tryz.underlying0
  a0 := Tryz.isAgg0
  z0 := Tryz.sizeOf0
  v0 := Tryz.zeroValue0
  t3 := Tryz.underlying3
  a3 := Tryz.isAgg3
  z3 := Tryz.sizeOf3
  v3 := Tryz.zeroValue3
  t4 := Tryz.underlying4
  a4 := Tryz.isAgg4
  z4 := Tryz.sizeOf4
  v4 := Tryz.zeroValue4
  t5 := Tryz.underlying5
  a5 := Tryz.isAgg5
  z5 := Tryz.sizeOf5
  v5 := Tryz.zeroValue5
  t9 := Tryz.underlying9
  a9 := Tryz.isAgg9
  z9 := Tryz.sizeOf9
  v9 := Tryz.zeroValue9
  t46 := Tryz.underlying125
  a46 := Tryz.isAgg125
  z46 := Tryz.sizeOf125
  v46 := Tryz.zeroValue125
  t51 := Tryz.underlying190
  a51 := Tryz.isAgg190
  z51 := Tryz.sizeOf190
  v51 := Tryz.zeroValue190
  t146 := Tryz.underlying276
  a146 := Tryz.isAgg276
  z146 := Tryz.sizeOf276
  v146 := Tryz.zeroValue276
  g1 := by kernel_rfl }
open Go.RowKit Go.Lib in
theorem Tryz.strings_Count_one (s : ByteArray) (c : UInt8) (w : World) :
    Calls Tryz.prog 38 #[.string s, .string ⟨#[c]⟩] w fun e w' => e = .returned (.int .i64 (Lib.countByte s.data.toList c)) ∧ w' = w := Any.strings_Count_one Tryz.lays138 s c w
def Tryz.lays189_ren : Go.Shelf.Ren := ⟨fun | 189 => 47 | 125 => 101 | 257 => 100 | 128 => 180 | 129 => 181 | 294 => 171 | 295 => 172 | 296 => 173 | 297 => 174 | 298 => 175 | 299 => 176 | 216 => 177 | 300 => 178 | 301 => 179 | 328 => 269 | 329 => 270 | 330 => 271 | 331 => 272 | 332 => 273 | 215 => 274 | 343 => 345 | n => n, fun | 28 => 29 | 3 => 3 | 46 => 125 | 0 => 0 | 51 => 190 | 53 => 192 | 4 => 4 | 183 => 183 | 182 => 182 | 131 => 170 | 5 => 5 | 9 => 9 | 218 => 255 | 222 => 204 | 228 => 305 | 229 => 306 | n => n, fun | n => n⟩
theorem Tryz.lays189 : Go.Proofs.Lays.n189 Tryz.prog Tryz.lays189_ren := {
  mixed := by kernel_rfl
  f125 := Tryz.func101.trans (congrArg some (by kernel_rfl))
  f128 := Tryz.func180.trans (congrArg some (by kernel_rfl))
  f129 := Tryz.func181.trans (congrArg some (by kernel_rfl))
  f189 := Tryz.func47.trans (congrArg some (by kernel_rfl))
  f215 := Tryz.func274.trans (congrArg some (by kernel_rfl))
  f216 := Tryz.func177.trans (congrArg some (by kernel_rfl))
  f257 := Tryz.func100.trans (congrArg some (by kernel_rfl))
  f294 := Tryz.func171.trans (congrArg some (by kernel_rfl))
  f295 := Tryz.func172.trans (congrArg some (by kernel_rfl))
  f296 := Tryz.func173.trans (congrArg some (by kernel_rfl))
  f297 := Tryz.func174.trans (congrArg some (by kernel_rfl))
  f298 := Tryz.func175.trans (congrArg some (by kernel_rfl))
  f299 := Tryz.func176.trans (congrArg some (by kernel_rfl))
  f300 := Tryz.func178.trans (congrArg some (by kernel_rfl))
  f301 := Tryz.func179.trans (congrArg some (by kernel_rfl))
  f328 := Tryz.func269.trans (congrArg some (by kernel_rfl))
  f329 := Tryz.func270.trans (congrArg some (by kernel_rfl))
  f330 := Tryz.func271.trans (congrArg some (by kernel_rfl))
  f331 := Tryz.func272.trans (congrArg some (by kernel_rfl))
  f332 := Tryz.func273.trans (congrArg some (by kernel_rfl))
  f343 := Tryz.func345.trans (congrArg some (by kernel_rfl))
  t0 := Tryz.underlying0
  a0 := Tryz.isAgg0
  z0 := Tryz.sizeOf0
  v0 := Tryz.zeroValue0
  t3 := Tryz.underlying3
  a3 := Tryz.isAgg3
  z3 := Tryz.sizeOf3
  v3 := Tryz.zeroValue3
  t4 := Tryz.underlying4
  a4 := Tryz.isAgg4
  z4 := Tryz.sizeOf4
  v4 := Tryz.zeroValue4
  t5 := Tryz.underlying5
  a5 := Tryz.isAgg5
  z5 := Tryz.sizeOf5
  v5 := Tryz.zeroValue5
  t9 := Tryz.underlying9
  a9 := Tryz.isAgg9
  z9 := Tryz.sizeOf9
  v9 := Tryz.zeroValue9
  t28 := Tryz.underlying29
  a28 := Tryz.isAgg29
  z28 := Tryz.sizeOf29
  v28 := Tryz.zeroValue29
  t46 := Tryz.underlying125
  a46 := Tryz.isAgg125
  z46 := Tryz.sizeOf125
  v46 := Tryz.zeroValue125
  t51 := Tryz.underlying190
  a51 := Tryz.isAgg190
  z51 := Tryz.sizeOf190
  v51 := Tryz.zeroValue190
  t53 := Tryz.underlying192
  a53 := Tryz.isAgg192
  z53 := Tryz.sizeOf192
  v53 := Tryz.zeroValue192
  t131 := Tryz.underlying170
  a131 := Tryz.isAgg170
  z131 := Tryz.sizeOf170
  v131 := Tryz.zeroValue170
  t182 := Tryz.underlying182
  a182 := Tryz.isAgg182
  z182 := Tryz.sizeOf182
  v182 := Tryz.zeroValue182
  t183 := Tryz.underlying183
  a183 := Tryz.isAgg183
  z183 := Tryz.sizeOf183
  v183 := Tryz.zeroValue183
  t218 := Tryz.underlying255
  a218 := Tryz.isAgg255
  z218 := Tryz.sizeOf255
  v218 := Tryz.zeroValue255
  t222 := Tryz.underlying204
  a222 := Tryz.isAgg204
  z222 := Tryz.sizeOf204
  v222 := Tryz.zeroValue204
  t228 := Tryz.underlying305
  a228 := Tryz.isAgg305
  z228 := Tryz.sizeOf305
  v228 := Tryz.zeroValue305
  t229 := Tryz.underlying306
  a229 := Tryz.isAgg306
  z229 := Tryz.sizeOf306
  v229 := Tryz.zeroValue306 }
open Go.Sort Go.RowKit in
theorem Tryz.slices_Sort_int (blk off cap : Nat) (zs : List Int) (w : World) (hH : Holds (Value.int .i64) w blk off zs.toArray) (hblk : blk < w.heap.size) (hsz : zs.length < 4611686018427387904) :
    Calls Tryz.prog 47 #[.slice (some ⟨blk, off, none⟩) zs.length cap] w fun e w' =>
      e = .returned (.tuple #[]) ∧ ∃ n os, w' = grow (putRow (Value.int .i64) (Sort.ahead w n) blk off (zs.mergeSort fun x y => decide (x ≤ y)).toArray) os := Any.slices_Sort_int Tryz.lays189 blk off cap zs w hH hblk hsz
open Go.RowKit Go.Sort in
theorem Tryz.slices_Sort_int_none (p : Option Addr) (cap : Nat) (w : World) :
    Calls Tryz.prog 47 #[.slice p 0 cap] w fun e w' => e = .returned (.tuple #[]) ∧ w' = w := Any.slices_Sort_int_none Tryz.lays189 p cap w
def Tryz.laysSortFunc_ren : Go.Shelf.Ren := ⟨fun | 6 => 157 | 15 => 101 | 14 => 242 | 28 => 180 | 29 => 181 | 20 => 318 | 21 => 319 | 22 => 320 | 23 => 321 | 24 => 322 | 25 => 323 | 26 => 324 | 27 => 325 | 46 => 362 | 47 => 270 | 48 => 271 | 49 => 363 | 50 => 364 | 57 => 378 | n => n, fun | 22 => 22 | 24 => 31 | 25 => 79 | 3 => 3 | 39 => 125 | 0 => 0 | 53 => 190 | 55 => 192 | 4 => 4 | 46 => 183 | 45 => 182 | 50 => 170 | 5 => 5 | 9 => 9 | 66 => 255 | 70 => 204 | 76 => 305 | 77 => 306 | n => n, fun | n => n⟩
theorem Tryz.laysSortFunc : Go.Proofs.SlLaysF0.n6 Tryz.prog Tryz.laysSortFunc_ren := {
  mixed := by kernel_rfl
  f6 := ⟨Tryz.f157.name, by decide, Tryz.func157.trans (congrArg some (by kernel_rfl))⟩
  f14 := ⟨Tryz.f242.name, by decide, Tryz.func242.trans (congrArg some (by kernel_rfl))⟩
  f15 := Tryz.func101.trans (congrArg some (by kernel_rfl))
  f20 := ⟨Tryz.f318.name, by decide, Tryz.func318.trans (congrArg some (by kernel_rfl))⟩
  f21 := ⟨Tryz.f319.name, by decide, Tryz.func319.trans (congrArg some (by kernel_rfl))⟩
  f22 := ⟨Tryz.f320.name, by decide, Tryz.func320.trans (congrArg some (by kernel_rfl))⟩
  f23 := ⟨Tryz.f321.name, by decide, Tryz.func321.trans (congrArg some (by kernel_rfl))⟩
  f24 := ⟨Tryz.f322.name, by decide, Tryz.func322.trans (congrArg some (by kernel_rfl))⟩
  f25 := ⟨Tryz.f323.name, by decide, Tryz.func323.trans (congrArg some (by kernel_rfl))⟩
  f26 := ⟨Tryz.f324.name, by decide, Tryz.func324.trans (congrArg some (by kernel_rfl))⟩
  f27 := ⟨Tryz.f325.name, by decide, Tryz.func325.trans (congrArg some (by kernel_rfl))⟩
  f28 := Tryz.func180.trans (congrArg some (by kernel_rfl))
  f29 := Tryz.func181.trans (congrArg some (by kernel_rfl))
  f46 := ⟨Tryz.f362.name, by decide, Tryz.func362.trans (congrArg some (by kernel_rfl))⟩
  f47 := Tryz.func270.trans (congrArg some (by kernel_rfl))
  f48 := Tryz.func271.trans (congrArg some (by kernel_rfl))
  f49 := ⟨Tryz.f363.name, by decide, Tryz.func363.trans (congrArg some (by kernel_rfl))⟩
  f50 := ⟨Tryz.f364.name, by decide, Tryz.func364.trans (congrArg some (by kernel_rfl))⟩
  f57 := ⟨Tryz.f378.name, by decide, Tryz.func378.trans (congrArg some (by kernel_rfl))⟩
  t0 := Tryz.underlying0
  a0 := Tryz.isAgg0
  z0 := Tryz.sizeOf0
  v0 := Tryz.zeroValue0
  t3 := Tryz.underlying3
  a3 := Tryz.isAgg3
  z3 := Tryz.sizeOf3
  v3 := Tryz.zeroValue3
  t4 := Tryz.underlying4
  a4 := Tryz.isAgg4
  z4 := Tryz.sizeOf4
  v4 := Tryz.zeroValue4
  t5 := Tryz.underlying5
  a5 := Tryz.isAgg5
  z5 := Tryz.sizeOf5
  v5 := Tryz.zeroValue5
  t9 := Tryz.underlying9
  a9 := Tryz.isAgg9
  z9 := Tryz.sizeOf9
  v9 := Tryz.zeroValue9
  t22 := Tryz.underlying22
  a22 := Tryz.isAgg22
  z22 := Tryz.sizeOf22
  v22 := Tryz.zeroValue22
  t25 := Tryz.underlying79
  a25 := Tryz.isAgg79
  z25 := Tryz.sizeOf79
  v25 := Tryz.zeroValue79
  t39 := Tryz.underlying125
  a39 := Tryz.isAgg125
  z39 := Tryz.sizeOf125
  v39 := Tryz.zeroValue125
  t45 := Tryz.underlying182
  a45 := Tryz.isAgg182
  z45 := Tryz.sizeOf182
  v45 := Tryz.zeroValue182
  t46 := Tryz.underlying183
  a46 := Tryz.isAgg183
  z46 := Tryz.sizeOf183
  v46 := Tryz.zeroValue183
  t50 := Tryz.underlying170
  a50 := Tryz.isAgg170
  z50 := Tryz.sizeOf170
  v50 := Tryz.zeroValue170
  t53 := Tryz.underlying190
  a53 := Tryz.isAgg190
  z53 := Tryz.sizeOf190
  v53 := Tryz.zeroValue190
  t55 := Tryz.underlying192
  a55 := Tryz.isAgg192
  z55 := Tryz.sizeOf192
  v55 := Tryz.zeroValue192
  t66 := Tryz.underlying255
  a66 := Tryz.isAgg255
  z66 := Tryz.sizeOf255
  v66 := Tryz.zeroValue255
  t70 := Tryz.underlying204
  a70 := Tryz.isAgg204
  z70 := Tryz.sizeOf204
  v70 := Tryz.zeroValue204
  t76 := Tryz.underlying305
  a76 := Tryz.isAgg305
  z76 := Tryz.sizeOf305
  v76 := Tryz.zeroValue305
  t77 := Tryz.underlying306
  a77 := Tryz.isAgg306
  z77 := Tryz.sizeOf306
  v77 := Tryz.zeroValue306 }
def Tryz.laysGrow_ren : Go.Shelf.Ren := ⟨fun | 4 => 218 | n => n, fun | 22 => 22 | 25 => 31 | 3 => 3 | 4 => 4 | 9 => 9 | 20 => 20 | 0 => 0 | n => n, fun | n => n⟩
theorem Tryz.laysGrow : Go.Proofs.Lays8.n4 Tryz.prog Tryz.laysGrow_ren := {
  mixed := by kernel_rfl
  f4 := ⟨Tryz.f218.name, by decide, Tryz.func218.trans (congrArg some (by kernel_rfl))⟩
  t0 := Tryz.underlying0
  a0 := Tryz.isAgg0
  z0 := Tryz.sizeOf0
  v0 := Tryz.zeroValue0
  t3 := Tryz.underlying3
  a3 := Tryz.isAgg3
  z3 := Tryz.sizeOf3
  v3 := Tryz.zeroValue3
  t4 := Tryz.underlying4
  a4 := Tryz.isAgg4
  z4 := Tryz.sizeOf4
  v4 := Tryz.zeroValue4
  t9 := Tryz.underlying9
  a9 := Tryz.isAgg9
  z9 := Tryz.sizeOf9
  v9 := Tryz.zeroValue9
  t20 := Tryz.underlying20
  a20 := Tryz.isAgg20
  z20 := Tryz.sizeOf20
  v20 := Tryz.zeroValue20
  t22 := Tryz.underlying22
  a22 := Tryz.isAgg22
  z22 := Tryz.sizeOf22
  v22 := Tryz.zeroValue22 }
end Go.Proofs
