/-
  Contracts of library functions at this program, in plain words (written by the shelf's tools).
-/
import Derived.Shelf.Strings.SlTrimAscii
import Derived.Shelf.SlSortCmp.WholeK
import Derived.Shelf.SlSortCmp.NoneTotal
import Derived.Shelf.Spec.SlicesGrow
import Derived.Shelf.Strings.Builder1
import Derived.Shelf.Strings.Trim
import Derived.Shelf.Small.Utf8
import Derived.Shelf.Small.Bits
import Derived.Shelf.Small.Strs
import Derived.Shelf.Utf8.RuneCount
import Derived.Shelf.Strconv.Atoi
import Derived.Shelf.Strconv.Itoa0
import Derived.Shelf.Strconv.Itoa1
import Derived.Shelf.LaysM
import Derived.Shelf.Strconv.Itoa2
import Derived.Shelf.Strconv.Itoa3
import Derived.Shelf.Strconv.AtoiErrFast
import Derived.Shelf.Strconv.ParseIntEmpty
import Derived.Shelf.Strconv.AtoiFail
import Derived.Shelf.Strconv.Clone
import Derived.Shelf.Strconv.SyntaxError
import Derived.Shelf.LaysC
import Derived.Shelf.Strconv.ToError
import Derived.Shelf.Strconv.AtoiErr
import Derived.Shelf.Strconv.ErrVar
import Derived.Shelf.Strconv.Lower
import Derived.Shelf.Strconv.ParseUint10
import Derived.Shelf.Strconv.ParseUint10Empty
import Derived.Shelf.Strconv.ParseUint10Any
import Derived.Shelf.Strconv.ParseInt10
import Derived.Shelf.Strconv.AtoiLong
import Derived.Shelf.Strconv.AtoiInnerAll
import Derived.Shelf.Strconv.RangeError
import Derived.Shelf.Strconv.ToErrorRange
import Derived.Shelf.Strconv.AtoiAll
import Derived.Shelf.Strconv.ErrVarAll
import Derived.Shelf.Strings.Search1
import Derived.Shelf.Strings.Search2
import Derived.Shelf.Strings.Search3
import Derived.Shelf.Strings.Cut
import Derived.Shelf.Strings.Count
import Derived.Shelf.Strings.Shaped
import Derived.Shelf.Sort.Plain
import Derived.Shelf.Strings.Split
import Derived.Shelf.Strings.SplitShaped
import Derived.Shelf.Unicode.Decode
import Derived.Shelf.Strings.Runes
import Derived.Shelf.Strings.RuneCount
import Derived.Shelf.Strings.AsciiSet
import Derived.Shelf.Strings.Explode
import Derived.Shelf.Unicode.DecodeSlow
import Derived.Shelf.Unicode.DecodeAny
import Derived.Shelf.Unicode.DecodeLast
import Derived.Shelf.Slices.Turned
import Derived.Shelf.Slices.Equal
import Derived.Ground.Names2Prog
import Derived.Shelf.Slices.Clone
import Derived.Shelf.Slices.CompactI
import Derived.Shelf.Slices.SearchI
import Derived.Shelf.Slices.Cells
import Derived.Shelf.Slices.In.SortNone
import Derived.Ground.SlgnProg
import Derived.Shelf.SlicesE.Clone
import Derived.Test.YtmlbinmlblbfgaaGreatDoorProg
namespace Go.Proofs
open Go.Shelf
def Tryz.lays160_ren : Go.Shelf.Ren := ⟨fun | 160 => 127 | 232 => 199 | 231 => 198 | 227 => 200 | 234 => 202 | 233 => 201 | 236 => 204 | 235 => 203 | 228 => 270 | 271 => 272 | 151 => 271 | 197 => 170 | 120 => 315 | 152 => 314 | 260 => 243 | 137 => 333 | 119 => 334 | 224 => 168 | 225 => 167 | 217 => 166 | 266 => 241 | n => n, fun | 9 => 9 | 4 => 4 | 3 => 3 | 5 => 5 | 117 => 212 | 116 => 211 | 0 => 0 | 124 => 215 | 21 => 21 | 105 => 189 | 46 => 122 | 119 => 302 | 139 => 305 | 138 => 304 | n => n, fun | 3 => 5 | 4 => 6 | n => n⟩
theorem Tryz.lays160 : Go.Proofs.Lays.n160 Tryz.prog Tryz.lays160_ren := {
  mixed := by kernel_rfl
  f119 := Tryz.func334.trans (congrArg some (by kernel_rfl))
  f120 := Tryz.func315.trans (congrArg some (by kernel_rfl))
  f137 := Tryz.func333.trans (congrArg some (by kernel_rfl))
  f151 := Tryz.func271.trans (congrArg some (by kernel_rfl))
  f152 := Tryz.func314.trans (congrArg some (by kernel_rfl))
  f160 := Tryz.func127.trans (congrArg some (by kernel_rfl))
  f197 := Tryz.func170.trans (congrArg some (by kernel_rfl))
  f217 := Tryz.func166.trans (congrArg some (by kernel_rfl))
  f224 := Tryz.func168.trans (congrArg some (by kernel_rfl))
  f225 := Tryz.func167.trans (congrArg some (by kernel_rfl))
  f227 := Tryz.func200.trans (congrArg some (by kernel_rfl))
  f228 := Tryz.func270.trans (congrArg some (by kernel_rfl))
  f231 := Tryz.func198.trans (congrArg some (by kernel_rfl))
  f232 := Tryz.func199.trans (congrArg some (by kernel_rfl))
  f233 := Tryz.func201.trans (congrArg some (by kernel_rfl))
  f234 := Tryz.func202.trans (congrArg some (by kernel_rfl))
  f235 := Tryz.func203.trans (congrArg some (by kernel_rfl))
  f236 := Tryz.func204.trans (congrArg some (by kernel_rfl))
  f260 := Tryz.func243.trans (congrArg some (by kernel_rfl))
  f266 := Tryz.func241.trans (congrArg some (by kernel_rfl))
  f271 := Tryz.func272.trans (congrArg some (by kernel_rfl))
  t0 := Tryz.underlying0
  a0 := Tryz.isAgg0
  z0 := Tryz.sizeOf0
  v0 := Tryz.zeroValue0
  t3 := Tryz.underlying3
  a3 := Tryz.isAgg3
  z3 := Tryz.sizeOf3
  v3 := Tryz.zeroValue3
  t4 := Tryz.underlying4
  a4 := Tryz.isAgg4
  z4 := Tryz.sizeOf4
  v4 := Tryz.zeroValue4
  t5 := Tryz.underlying5
  a5 := Tryz.isAgg5
  z5 := Tryz.sizeOf5
  v5 := Tryz.zeroValue5
  t9 := Tryz.underlying9
  a9 := Tryz.isAgg9
  z9 := Tryz.sizeOf9
  v9 := Tryz.zeroValue9
  t21 := Tryz.underlying21
  a21 := Tryz.isAgg21
  z21 := Tryz.sizeOf21
  v21 := Tryz.zeroValue21
  t46 := Tryz.underlying122
  a46 := Tryz.isAgg122
  z46 := Tryz.sizeOf122
  v46 := Tryz.zeroValue122
  t105 := Tryz.underlying189
  a105 := Tryz.isAgg189
  z105 := Tryz.sizeOf189
  v105 := Tryz.zeroValue189
  t116 := Tryz.underlying211
  a116 := Tryz.isAgg211
  z116 := Tryz.sizeOf211
  t117 := Tryz.underlying212
  a117 := Tryz.isAgg212
  z117 := Tryz.sizeOf212
  v117 := Tryz.zeroValue212
  t119 := Tryz.underlying302
  a119 := Tryz.isAgg302
  z119 := Tryz.sizeOf302
  t124 := Tryz.underlying215
  a124 := Tryz.isAgg215
  z124 := Tryz.sizeOf215
  v124 := Tryz.zeroValue215
  t138 := Tryz.underlying304
  a138 := Tryz.isAgg304
  z138 := Tryz.sizeOf304
  v138 := Tryz.zeroValue304
  t139 := Tryz.underlying305
  a139 := Tryz.isAgg305
  z139 := Tryz.sizeOf305
  v139 := Tryz.zeroValue305
  g3 := by kernel_rfl
  g4 := by kernel_rfl }
def Tryz.lays106_ren : Go.Shelf.Ren := ⟨fun | 106 => 147 | 213 => 224 | 265 => 291 | n => n, fun | 9 => 9 | 3 => 3 | n => n, fun | n => n⟩
theorem Tryz.lays106 : Go.Proofs.Lays.n106 Tryz.prog Tryz.lays106_ren := {
  mixed := by kernel_rfl
  f106 := Tryz.func147.trans (congrArg some (by kernel_rfl))
  f213 := Tryz.func224.trans (congrArg some (by kernel_rfl))
  f265 := Tryz.func291.trans (congrArg some (by kernel_rfl))
  t3 := Tryz.underlying3
  a3 := Tryz.isAgg3
  z3 := Tryz.sizeOf3
  v3 := Tryz.zeroValue3
  t9 := Tryz.underlying9
  a9 := Tryz.isAgg9
  z9 := Tryz.sizeOf9
  v9 := Tryz.zeroValue9 }
open Go.RowKit in
theorem Tryz.strings_Compare (a b : ByteArray) (w : World) :
    Calls Tryz.prog 147 #[.string a, .string b] w fun e w' => e = .returned (.int .i64 (Lib.compareBytes a.data.toList b.data.toList)) ∧ w' = w := Any.strings_Compare Tryz.lays106 a b w
def Tryz.laysM171_ren : Go.Shelf.Ren := ⟨fun | 171 => 53 | 243 => 97 | 246 => 164 | 283 => 237 | 284 => 238 | 285 => 239 | 286 => 240 | 129 => 161 | 317 => 301 | 318 => 302 | 319 => 303 | 320 => 304 | 337 => 326 | 338 => 327 | n => n, fun | 3 => 3 | 9 => 9 | 2 => 2 | 4 => 4 | 171 => 249 | 0 => 0 | 53 => 183 | 37 => 46 | 5 => 5 | 173 => 251 | 212 => 300 | 51 => 181 | 20 => 20 | 213 => 301 | 46 => 122 | 232 => 332 | 233 => 333 | n => n, fun | 17 => 4 | 18 => 7 | 19 => 8 | n => n⟩
theorem Tryz.laysM171 : Go.Proofs.LaysM.n171 Tryz.prog Tryz.laysM171_ren := {
  mixed := by kernel_rfl
  f129 := Tryz.func161.trans (congrArg some (by kernel_rfl))
  f171 := Tryz.func53.trans (congrArg some (by kernel_rfl))
  f243 := Tryz.func97.trans (congrArg some (by kernel_rfl))
  f246 := Tryz.func164.trans (congrArg some (by kernel_rfl))
  f283 := Tryz.func237.trans (congrArg some (by kernel_rfl))
  f284 := Tryz.func238.trans (congrArg some (by kernel_rfl))
  f285 := Tryz.func239.trans (congrArg some (by kernel_rfl))
  f286 := Tryz.func240.trans (congrArg some (by kernel_rfl))
  f317 := Tryz.func301.trans (congrArg some (by kernel_rfl))
  f318 := Tryz.func302.trans (congrArg some (by kernel_rfl))
  f319 := Tryz.func303.trans (congrArg some (by kernel_rfl))
  f320 := Tryz.func304.trans (congrArg some (by kernel_rfl))
  f337 := Tryz.func326.trans (congrArg some (by kernel_rfl))
  f338 := Tryz.func327.trans (congrArg some (by kernel_rfl))
  t0 := Tryz.underlying0
  a0 := Tryz.isAgg0
  z0 := Tryz.sizeOf0
  v0 := Tryz.zeroValue0
  t2 := Tryz.underlying2
  a2 := Tryz.isAgg2
  z2 := Tryz.sizeOf2
  v2 := Tryz.zeroValue2
  t3 := Tryz.underlying3
  a3 := Tryz.isAgg3
  z3 := Tryz.sizeOf3
  v3 := Tryz.zeroValue3
  t4 := Tryz.underlying4
  a4 := Tryz.isAgg4
  z4 := Tryz.sizeOf4
  v4 := Tryz.zeroValue4
  t5 := Tryz.underlying5
  a5 := Tryz.isAgg5
  z5 := Tryz.sizeOf5
  v5 := Tryz.zeroValue5
  t9 := Tryz.underlying9
  a9 := Tryz.isAgg9
  z9 := Tryz.sizeOf9
  v9 := Tryz.zeroValue9
  t20 := Tryz.underlying20
  a20 := Tryz.isAgg20
  z20 := Tryz.sizeOf20
  v20 := Tryz.zeroValue20
  t37 := Tryz.underlying46
  a37 := Tryz.isAgg46
  z37 := Tryz.sizeOf46
  v37 := Tryz.zeroValue46
  t46 := Tryz.underlying122
  a46 := Tryz.isAgg122
  z46 := Tryz.sizeOf122
  v46 := Tryz.zeroValue122
  t51 := Tryz.underlying181
  a51 := Tryz.isAgg181
  z51 := Tryz.sizeOf181
  v51 := Tryz.zeroValue181
  t53 := Tryz.underlying183
  a53 := Tryz.isAgg183
  z53 := Tryz.sizeOf183
  v53 := Tryz.zeroValue183
  t171 := Tryz.underlying249
  a171 := Tryz.isAgg249
  z171 := Tryz.sizeOf249
  v171 := Tryz.zeroValue249
  t173 := Tryz.underlying251
  a173 := Tryz.isAgg251
  z173 := Tryz.sizeOf251
  v173 := Tryz.zeroValue251
  t212 := Tryz.underlying300
  a212 := Tryz.isAgg300
  z212 := Tryz.sizeOf300
  v212 := Tryz.zeroValue300
  t213 := Tryz.underlying301
  a213 := Tryz.isAgg301
  z213 := Tryz.sizeOf301
  t232 := Tryz.underlying332
  a232 := Tryz.isAgg332
  z232 := Tryz.sizeOf332
  v232 := Tryz.zeroValue332
  t233 := Tryz.underlying333
  a233 := Tryz.isAgg333
  z233 := Tryz.sizeOf333
  v233 := Tryz.zeroValue333
  g17 := by kernel_rfl
  g18 := by kernel_rfl
  g19 := by kernel_rfl
  i0 := by kernel_rfl
  i2 := by kernel_rfl
  i3 := by kernel_rfl
  i4 := by kernel_rfl
  i5 := by kernel_rfl
  i9 := by kernel_rfl
  i20 := by kernel_rfl
  i37 := by kernel_rfl
  i46 := by kernel_rfl
  i51 := by kernel_rfl
  i53 := by kernel_rfl
  i171 := by kernel_rfl
  i173 := by kernel_rfl
  i212 := by kernel_rfl
  i232 := by kernel_rfl
  i233 := by kernel_rfl
  m17 := by kernel_rfl
  m18 := by kernel_rfl
  m19 := by kernel_rfl }
open Go.RowKit Go.Sort Go.Lib in
theorem Tryz.strconv_Itoa (n : Int) (h0 : -9223372036854775808 ≤ n) (h1 : n ≤ 9223372036854775807) (w : World) (htab : Lib.TabIs Tryz.prog w "internal/strconv.uint64pow10" .u64 Lib.pow10Tab) :
    Calls Tryz.prog 53 #[.int .i64 n] w fun e w' => e = .returned (.string ⟨(Lib.itoa n).toArray⟩) ∧ ∃ k os, w' = grow (w.drewN k) os := Any.strconv_Itoa Tryz.laysM171 n h0 h1 w htab
def Tryz.laysC172_ren : Go.Shelf.Ren := ⟨fun | 172 => 66 | 244 => 105 | 245 => 106 | 247 => 174 | 279 => 175 | 280 => 176 | 281 => 177 | 282 => 178 | 287 => 246 | 316 => 247 | 171 => 53 | 205 => 248 | 321 => 305 | 322 => 306 | 243 => 97 | 246 => 164 | 283 => 237 | 284 => 238 | 285 => 239 | 286 => 240 | 129 => 161 | 317 => 301 | 318 => 302 | 319 => 303 | 320 => 304 | 337 => 326 | 338 => 327 | n => n, fun | 9 => 9 | 3 => 3 | 75 => 52 | 76 => 53 | 4 => 4 | 5 => 5 | 167 => 193 | 37 => 46 | 0 => 0 | 85 => 194 | 2 => 2 | 168 => 196 | 53 => 183 | 175 => 255 | 46 => 122 | 210 => 258 | 127 => 91 | 145 => 309 | 143 => 307 | 21 => 21 | 171 => 249 | 173 => 251 | 212 => 300 | 51 => 181 | 20 => 20 | 213 => 301 | 232 => 332 | 233 => 333 | 80 => 56 | n => n, fun | 15 => 2 | 16 => 3 | 17 => 4 | 18 => 7 | 19 => 8 | n => n⟩
theorem Tryz.laysC172 : Go.Proofs.LaysC.n172 Tryz.prog Tryz.laysC172_ren := {
  mixed := by kernel_rfl
  f129 := Tryz.func161.trans (congrArg some (by kernel_rfl))
  f171 := Tryz.func53.trans (congrArg some (by kernel_rfl))
  f172 := Tryz.func66.trans (congrArg some (by kernel_rfl))
  f205 := Tryz.func248.trans (congrArg some (by kernel_rfl))
  f243 := Tryz.func97.trans (congrArg some (by kernel_rfl))
  f244 := Tryz.func105.trans (congrArg some (by kernel_rfl))
  f245 := Tryz.func106.trans (congrArg some (by kernel_rfl))
  f246 := Tryz.func164.trans (congrArg some (by kernel_rfl))
  f247 := Tryz.func174.trans (congrArg some (by kernel_rfl))
  f279 := Tryz.func175.trans (congrArg some (by kernel_rfl))
  f280 := Tryz.func176.trans (congrArg some (by kernel_rfl))
  f281 := Tryz.func177.trans (congrArg some (by kernel_rfl))
  f282 := Tryz.func178.trans (congrArg some (by kernel_rfl))
  f283 := Tryz.func237.trans (congrArg some (by kernel_rfl))
  f284 := Tryz.func238.trans (congrArg some (by kernel_rfl))
  f285 := Tryz.func239.trans (congrArg some (by kernel_rfl))
  f286 := Tryz.func240.trans (congrArg some (by kernel_rfl))
  f287 := Tryz.func246.trans (congrArg some (by kernel_rfl))
  f316 := Tryz.func247.trans (congrArg some (by kernel_rfl))
  f317 := Tryz.func301.trans (congrArg some (by kernel_rfl))
  f318 := Tryz.func302.trans (congrArg some (by kernel_rfl))
  f319 := Tryz.func303.trans (congrArg some (by kernel_rfl))
  f320 := Tryz.func304.trans (congrArg some (by kernel_rfl))
  f321 := Tryz.func305.trans (congrArg some (by kernel_rfl))
  f322 := Tryz.func306.trans (congrArg some (by kernel_rfl))
  f337 := Tryz.func326.trans (congrArg some (by kernel_rfl))
  f338 := Tryz.func327.trans (congrArg some (by kernel_rfl))
  t0 := Tryz.underlying0
  a0 := Tryz.isAgg0
  z0 := Tryz.sizeOf0
  v0 := Tryz.zeroValue0
  t2 := Tryz.underlying2
  a2 := Tryz.isAgg2
  z2 := Tryz.sizeOf2
  v2 := Tryz.zeroValue2
  t3 := Tryz.underlying3
  a3 := Tryz.isAgg3
  z3 := Tryz.sizeOf3
  v3 := Tryz.zeroValue3
  t4 := Tryz.underlying4
  a4 := Tryz.isAgg4
  z4 := Tryz.sizeOf4
  v4 := Tryz.zeroValue4
  t5 := Tryz.underlying5
  a5 := Tryz.isAgg5
  z5 := Tryz.sizeOf5
  v5 := Tryz.zeroValue5
  t9 := Tryz.underlying9
  a9 := Tryz.isAgg9
  z9 := Tryz.sizeOf9
  v9 := Tryz.zeroValue9
  t20 := Tryz.underlying20
  a20 := Tryz.isAgg20
  z20 := Tryz.sizeOf20
  v20 := Tryz.zeroValue20
  t21 := Tryz.underlying21
  a21 := Tryz.isAgg21
  z21 := Tryz.sizeOf21
  v21 := Tryz.zeroValue21
  t37 := Tryz.underlying46
  a37 := Tryz.isAgg46
  z37 := Tryz.sizeOf46
  v37 := Tryz.zeroValue46
  t46 := Tryz.underlying122
  a46 := Tryz.isAgg122
  z46 := Tryz.sizeOf122
  v46 := Tryz.zeroValue122
  t51 := Tryz.underlying181
  a51 := Tryz.isAgg181
  z51 := Tryz.sizeOf181
  v51 := Tryz.zeroValue181
  t53 := Tryz.underlying183
  a53 := Tryz.isAgg183
  z53 := Tryz.sizeOf183
  v53 := Tryz.zeroValue183
  t75 := Tryz.underlying52
  a75 := Tryz.isAgg52
  z75 := Tryz.sizeOf52
  v75 := Tryz.zeroValue52
  t76 := Tryz.underlying53
  a76 := Tryz.isAgg53
  z76 := Tryz.sizeOf53
  v76 := Tryz.zeroValue53
  t85 := Tryz.underlying194
  a85 := Tryz.isAgg194
  z85 := Tryz.sizeOf194
  v85 := Tryz.zeroValue194
  t127 := Tryz.underlying91
  a127 := Tryz.isAgg91
  z127 := Tryz.sizeOf91
  v127 := Tryz.zeroValue91
  t143 := Tryz.underlying307
  a143 := Tryz.isAgg307
  z143 := Tryz.sizeOf307
  v143 := Tryz.zeroValue307
  t145 := Tryz.underlying309
  a145 := Tryz.isAgg309
  z145 := Tryz.sizeOf309
  v145 := Tryz.zeroValue309
  t167 := Tryz.underlying193
  a167 := Tryz.isAgg193
  z167 := Tryz.sizeOf193
  v167 := Tryz.zeroValue193
  t168 := Tryz.underlying196
  a168 := Tryz.isAgg196
  z168 := Tryz.sizeOf196
  v168 := Tryz.zeroValue196
  t171 := Tryz.underlying249
  a171 := Tryz.isAgg249
  z171 := Tryz.sizeOf249
  v171 := Tryz.zeroValue249
  t173 := Tryz.underlying251
  a173 := Tryz.isAgg251
  z173 := Tryz.sizeOf251
  v173 := Tryz.zeroValue251
  t175 := Tryz.underlying255
  a175 := Tryz.isAgg255
  z175 := Tryz.sizeOf255
  v175 := Tryz.zeroValue255
  t210 := Tryz.underlying258
  a210 := Tryz.isAgg258
  z210 := Tryz.sizeOf258
  v210 := Tryz.zeroValue258
  t212 := Tryz.underlying300
  a212 := Tryz.isAgg300
  z212 := Tryz.sizeOf300
  v212 := Tryz.zeroValue300
  t213 := Tryz.underlying301
  a213 := Tryz.isAgg301
  z213 := Tryz.sizeOf301
  t232 := Tryz.underlying332
  a232 := Tryz.isAgg332
  z232 := Tryz.sizeOf332
  v232 := Tryz.zeroValue332
  t233 := Tryz.underlying333
  a233 := Tryz.isAgg333
  z233 := Tryz.sizeOf333
  v233 := Tryz.zeroValue333
  g15 := by kernel_rfl
  g16 := by kernel_rfl
  g17 := by kernel_rfl
  g18 := by kernel_rfl
  g19 := by kernel_rfl
  t80 := Tryz.underlying56
  a80 := Tryz.isAgg56
  z80 := Tryz.sizeOf56
  v80 := Tryz.zeroValue56
  i0 := by kernel_rfl
  i2 := by kernel_rfl
  i3 := by kernel_rfl
  i4 := by kernel_rfl
  i5 := by kernel_rfl
  i9 := by kernel_rfl
  i20 := by kernel_rfl
  i21 := by kernel_rfl
  i37 := by kernel_rfl
  i46 := by kernel_rfl
  i51 := by kernel_rfl
  i53 := by kernel_rfl
  i75 := by kernel_rfl
  i76 := by kernel_rfl
  i80 := by kernel_rfl
  i85 := by kernel_rfl
  i127 := by kernel_rfl
  i143 := by kernel_rfl
  i145 := by kernel_rfl
  i167 := by kernel_rfl
  i168 := by kernel_rfl
  i171 := by kernel_rfl
  i173 := by kernel_rfl
  i175 := by kernel_rfl
  i210 := by kernel_rfl
  i212 := by kernel_rfl
  i232 := by kernel_rfl
  i233 := by kernel_rfl
  m15 := by kernel_rfl
  m16 := by kernel_rfl
  m17 := by kernel_rfl
  m18 := by kernel_rfl
  m19 := by kernel_rfl
  c0 := by kernel_rfl
  c2 := by kernel_rfl
  c3 := by kernel_rfl
  c4 := by kernel_rfl
  c5 := by kernel_rfl
  c9 := by kernel_rfl
  c20 := by kernel_rfl
  c21 := by kernel_rfl
  c37 := by kernel_rfl
  c46 := by kernel_rfl
  c51 := by kernel_rfl
  c53 := by kernel_rfl
  c75 := by kernel_rfl
  c76 := by kernel_rfl
  c80 := by kernel_rfl
  c85 := by kernel_rfl
  c127 := by kernel_rfl
  c143 := by kernel_rfl
  c145 := by kernel_rfl
  c167 := by kernel_rfl
  c168 := by kernel_rfl
  c171 := by kernel_rfl
  c173 := by kernel_rfl
  c175 := by kernel_rfl
  c210 := by kernel_rfl
  c212 := by kernel_rfl
  c213 := by kernel_rfl
  c232 := by kernel_rfl
  c233 := by kernel_rfl }
open Go.RowKit in
theorem Tryz.strconv_Atoi_ok (s : ByteArray) (hmax : s.size ≤ 9223372036854775806) (v : Int) (h : Lib.atoiAll s.data.toList = .ok v) (w : World) :
    Calls Tryz.prog 66 #[.string s] w fun e w' => e = .returned (.tuple #[.int .i64 v, .nilIface]) ∧ (w' = w ∨ ∃ t, w' = Lib.bytesWorld w 5 t) := Any.strconv_Atoi_ok Tryz.laysC172 s hmax v h w
open Go.RowKit in
theorem Tryz.strconv_Atoi_syntax_var (s : ByteArray) (hlim : s.size ≤ 281474976710656) (h : Lib.atoiAll s.data.toList = Lib.NumEnd.syntax) (tp : TypeId) (p : Value) (w : World) (hvar : w.var? Tryz.prog "strconv.ErrSyntax" = some #[.iface tp p]) :
    Calls Tryz.prog 66 #[.string s] w fun e w' => ∃ N, e = .returned (.tuple #[.int .i64 0, .iface 196 (.pointer (some ⟨N, 0, none⟩))]) ∧ w.heap.size ≤ N ∧ w'.heap[N]? = some (.cells #[.string ⟨#[65, 116, 111, 105]⟩, .string s, .iface tp p] 258 (0, 0)) ∧ Below w.heap.size w w' := Any.strconv_Atoi_syntax_var Tryz.laysC172 s hlim h tp p w hvar
open Go.RowKit in
theorem Tryz.strconv_Atoi_range_var (s : ByteArray) (hlim : s.size ≤ 281474976710656) (h : Lib.atoiAll s.data.toList = .range) (tp : TypeId) (p : Value) (w : World) (hvar : w.var? Tryz.prog "strconv.ErrRange" = some #[.iface tp p]) :
    Calls Tryz.prog 66 #[.string s] w fun e w' => ∃ N, e = .returned (.tuple #[.int .i64 (Lib.atoiSat s.data.toList), .iface 196 (.pointer (some ⟨N, 0, none⟩))]) ∧ w.heap.size ≤ N ∧ w'.heap[N]? = some (.cells #[.string ⟨#[65, 116, 111, 105]⟩, .string s, .iface tp p] 258 (0, 0)) ∧ Below w.heap.size w w' := Any.strconv_Atoi_range_var Tryz.laysC172 s hlim h tp p w hvar
def Tryz.lays217_ren : Go.Shelf.Ren := ⟨fun | 217 => 166 | 266 => 241 | n => n, fun | 9 => 9 | 5 => 5 | 3 => 3 | n => n, fun | n => n⟩
theorem Tryz.lays217 : Go.Proofs.Lays.n217 Tryz.prog Tryz.lays217_ren := {
  mixed := by kernel_rfl
  f217 := Tryz.func166.trans (congrArg some (by kernel_rfl))
  f266 := Tryz.func241.trans (congrArg some (by kernel_rfl))
  t3 := Tryz.underlying3
  a3 := Tryz.isAgg3
  z3 := Tryz.sizeOf3
  v3 := Tryz.zeroValue3
  t5 := Tryz.underlying5
  a5 := Tryz.isAgg5
  z5 := Tryz.sizeOf5
  v5 := Tryz.zeroValue5
  t9 := Tryz.underlying9
  a9 := Tryz.isAgg9
  z9 := Tryz.sizeOf9
  v9 := Tryz.zeroValue9 }
open Go.RowKit Go.Lib in
theorem Tryz.stringslite_IndexByte (s : ByteArray) (c : Int) (w : World) :
    Calls Tryz.prog 166 #[.string s, .int .u8 c] w fun e w' => e = .returned (.int .i64 (Lib.indexByte s.data.toList c.toNat.toUInt8)) ∧ w' = w := Any.stringslite_IndexByte Tryz.lays217 s c w
def Tryz.lays219_ren : Go.Shelf.Ren := ⟨fun | 219 => 101 | 217 => 166 | 225 => 167 | 224 => 168 | 267 => 169 | 266 => 241 | 314 => 242 | n => n, fun | 9 => 9 | 3 => 3 | 4 => 4 | 5 => 5 | 46 => 122 | 146 => 253 | 51 => 181 | n => n, fun | 1 => 0 | n => n⟩
theorem Tryz.lays219 : Go.Proofs.Lays.n219 Tryz.prog Tryz.lays219_ren := {
  mixed := by kernel_rfl
  f217 := Tryz.func166.trans (congrArg some (by kernel_rfl))
  f219 := Tryz.func101.trans (congrArg some (by kernel_rfl))
  f224 := Tryz.func168.trans (congrArg some (by kernel_rfl))
  f225 := Tryz.func167.trans (congrArg some (by kernel_rfl))
  f266 := Tryz.func241.trans (congrArg some (by kernel_rfl))
  f267 := Tryz.func169.trans (congrArg some (by kernel_rfl))
  f314 := Tryz.func242.trans (congrArg some (by kernel_rfl))
  t3 := Tryz.underlying3
  a3 := Tryz.isAgg3
  z3 := Tryz.sizeOf3
  v3 := Tryz.zeroValue3
  t4 := Tryz.underlying4
  a4 := Tryz.isAgg4
  z4 := Tryz.sizeOf4
  v4 := Tryz.zeroValue4
  t5 := Tryz.underlying5
  a5 := Tryz.isAgg5
  z5 := Tryz.sizeOf5
  v5 := Tryz.zeroValue5
  t9 := Tryz.underlying9
  a9 := Tryz.isAgg9
  z9 := Tryz.sizeOf9
  v9 := Tryz.zeroValue9
  t46 := Tryz.underlying122
  a46 := Tryz.isAgg122
  z46 := Tryz.sizeOf122
  v46 := Tryz.zeroValue122
  t51 := Tryz.underlying181
  a51 := Tryz.isAgg181
  z51 := Tryz.sizeOf181
  v51 := Tryz.zeroValue181
  t146 := Tryz.underlying253
  a146 := Tryz.isAgg253
  z146 := Tryz.sizeOf253
  v146 := Tryz.zeroValue253
  g1 := by kernel_rfl }
open Go.RowKit Go.Lib in
theorem Tryz.stringslite_Index (s sub : ByteArray) (m : Int) (w : World) (hs : s.size < 4294967281) (hm : w.cell? ⟨0, 0, none⟩ = some (.int .i64 m)) :
    Calls Tryz.prog 101 #[.string s, .string sub] w fun e w' => e = .returned (.int .i64 (Lib.index s.data.toList sub.data.toList)) ∧ w' = w := Any.stringslite_Index Tryz.lays219 s sub m w hs hm
def Tryz.lays138_ren : Go.Shelf.Ren := ⟨fun | 138 => 26 | 195 => 59 | 218 => 60 | 143 => 61 | 219 => 101 | 217 => 166 | 225 => 167 | 224 => 168 | 267 => 169 | 266 => 241 | 314 => 242 | n => n, fun | 9 => 9 | 3 => 3 | 4 => 4 | 5 => 5 | 0 => 0 | 46 => 122 | 146 => 253 | 51 => 181 | n => n, fun | 1 => 0 | n => n⟩
theorem Tryz.lays138 : Go.Proofs.Lays.n138 Tryz.prog Tryz.lays138_ren := {
  mixed := by kernel_rfl
  f138 := Tryz.func26.trans (congrArg some (by kernel_rfl))
  f143 := Tryz.func61.trans (congrArg some (by kernel_rfl))
  f195 := Tryz.func59.trans (congrArg some (by kernel_rfl))
  f217 := Tryz.func166.trans (congrArg some (by kernel_rfl))
  f218 := Tryz.func60.trans (congrArg some (by kernel_rfl))
  f219 := Tryz.func101.trans (congrArg some (by kernel_rfl))
  f224 := Tryz.func168.trans (congrArg some (by kernel_rfl))
  f225 := Tryz.func167.trans (congrArg some (by kernel_rfl))
  f266 := Tryz.func241.trans (congrArg some (by kernel_rfl))
  f267 := Tryz.func169.trans (congrArg some (by kernel_rfl))
  f314 := Tryz.func242.trans (congrArg some (by kernel_rfl))
  t0 := Tryz.underlying0
  a0 := Tryz.isAgg0
  z0 := Tryz.sizeOf0
  v0 := Tryz.zeroValue0
  t3 := Tryz.underlying3
  a3 := Tryz.isAgg3
  z3 := Tryz.sizeOf3
  v3 := Tryz.zeroValue3
  t4 := Tryz.underlying4
  a4 := Tryz.isAgg4
  z4 := Tryz.sizeOf4
  v4 := Tryz.zeroValue4
  t5 := Tryz.underlying5
  a5 := Tryz.isAgg5
  z5 := Tryz.sizeOf5
  v5 := Tryz.zeroValue5
  t9 := Tryz.underlying9
  a9 := Tryz.isAgg9
  z9 := Tryz.sizeOf9
  v9 := Tryz.zeroValue9
  t46 := Tryz.underlying122
  a46 := Tryz.isAgg122
  z46 := Tryz.sizeOf122
  v46 := Tryz.zeroValue122
  t51 := Tryz.underlying181
  a51 := Tryz.isAgg181
  z51 := Tryz.sizeOf181
  v51 := Tryz.zeroValue181
  t146 := Tryz.underlying253
  a146 := Tryz.isAgg253
  z146 := Tryz.sizeOf253
  v146 := Tryz.zeroValue253
  g1 := by kernel_rfl }
open Go.RowKit Go.Lib in
theorem Tryz.strings_Count_one (s : ByteArray) (c : UInt8) (w : World) :
    Calls Tryz.prog 26 #[.string s, .string ⟨#[c]⟩] w fun e w' => e = .returned (.int .i64 (Lib.countByte s.data.toList c)) ∧ w' = w := Any.strings_Count_one Tryz.lays138 s c w
def Tryz.lays189_ren : Go.Shelf.Ren := ⟨fun | 189 => 44 | 125 => 93 | 257 => 92 | 128 => 160 | 129 => 161 | 294 => 151 | 295 => 152 | 296 => 153 | 297 => 154 | 298 => 155 | 299 => 156 | 216 => 157 | 300 => 158 | 301 => 159 | 328 => 230 | 329 => 231 | 330 => 232 | 331 => 233 | 332 => 234 | 215 => 235 | 343 => 300 | n => n, fun | 28 => 40 | 3 => 3 | 46 => 122 | 0 => 0 | 51 => 181 | 53 => 183 | 4 => 4 | 183 => 174 | 182 => 173 | 131 => 98 | 5 => 5 | 9 => 9 | 218 => 244 | 222 => 185 | 228 => 296 | 229 => 297 | n => n, fun | n => n⟩
theorem Tryz.lays189 : Go.Proofs.Lays.n189 Tryz.prog Tryz.lays189_ren := {
  mixed := by kernel_rfl
  f125 := Tryz.func93.trans (congrArg some (by kernel_rfl))
  f128 := Tryz.func160.trans (congrArg some (by kernel_rfl))
  f129 := Tryz.func161.trans (congrArg some (by kernel_rfl))
  f189 := Tryz.func44.trans (congrArg some (by kernel_rfl))
  f215 := Tryz.func235.trans (congrArg some (by kernel_rfl))
  f216 := Tryz.func157.trans (congrArg some (by kernel_rfl))
  f257 := Tryz.func92.trans (congrArg some (by kernel_rfl))
  f294 := Tryz.func151.trans (congrArg some (by kernel_rfl))
  f295 := Tryz.func152.trans (congrArg some (by kernel_rfl))
  f296 := Tryz.func153.trans (congrArg some (by kernel_rfl))
  f297 := Tryz.func154.trans (congrArg some (by kernel_rfl))
  f298 := Tryz.func155.trans (congrArg some (by kernel_rfl))
  f299 := Tryz.func156.trans (congrArg some (by kernel_rfl))
  f300 := Tryz.func158.trans (congrArg some (by kernel_rfl))
  f301 := Tryz.func159.trans (congrArg some (by kernel_rfl))
  f328 := Tryz.func230.trans (congrArg some (by kernel_rfl))
  f329 := Tryz.func231.trans (congrArg some (by kernel_rfl))
  f330 := Tryz.func232.trans (congrArg some (by kernel_rfl))
  f331 := Tryz.func233.trans (congrArg some (by kernel_rfl))
  f332 := Tryz.func234.trans (congrArg some (by kernel_rfl))
  f343 := Tryz.func300.trans (congrArg some (by kernel_rfl))
  t0 := Tryz.underlying0
  a0 := Tryz.isAgg0
  z0 := Tryz.sizeOf0
  v0 := Tryz.zeroValue0
  t3 := Tryz.underlying3
  a3 := Tryz.isAgg3
  z3 := Tryz.sizeOf3
  v3 := Tryz.zeroValue3
  t4 := Tryz.underlying4
  a4 := Tryz.isAgg4
  z4 := Tryz.sizeOf4
  v4 := Tryz.zeroValue4
  t5 := Tryz.underlying5
  a5 := Tryz.isAgg5
  z5 := Tryz.sizeOf5
  v5 := Tryz.zeroValue5
  t9 := Tryz.underlying9
  a9 := Tryz.isAgg9
  z9 := Tryz.sizeOf9
  v9 := Tryz.zeroValue9
  t28 := Tryz.underlying40
  a28 := Tryz.isAgg40
  z28 := Tryz.sizeOf40
  v28 := Tryz.zeroValue40
  t46 := Tryz.underlying122
  a46 := Tryz.isAgg122
  z46 := Tryz.sizeOf122
  v46 := Tryz.zeroValue122
  t51 := Tryz.underlying181
  a51 := Tryz.isAgg181
  z51 := Tryz.sizeOf181
  v51 := Tryz.zeroValue181
  t53 := Tryz.underlying183
  a53 := Tryz.isAgg183
  z53 := Tryz.sizeOf183
  v53 := Tryz.zeroValue183
  t131 := Tryz.underlying98
  a131 := Tryz.isAgg98
  z131 := Tryz.sizeOf98
  v131 := Tryz.zeroValue98
  t182 := Tryz.underlying173
  a182 := Tryz.isAgg173
  z182 := Tryz.sizeOf173
  v182 := Tryz.zeroValue173
  t183 := Tryz.underlying174
  a183 := Tryz.isAgg174
  z183 := Tryz.sizeOf174
  v183 := Tryz.zeroValue174
  t218 := Tryz.underlying244
  a218 := Tryz.isAgg244
  z218 := Tryz.sizeOf244
  v218 := Tryz.zeroValue244
  t222 := Tryz.underlying185
  a222 := Tryz.isAgg185
  z222 := Tryz.sizeOf185
  v222 := Tryz.zeroValue185
  t228 := Tryz.underlying296
  a228 := Tryz.isAgg296
  z228 := Tryz.sizeOf296
  v228 := Tryz.zeroValue296
  t229 := Tryz.underlying297
  a229 := Tryz.isAgg297
  z229 := Tryz.sizeOf297
  v229 := Tryz.zeroValue297 }
open Go.Sort Go.RowKit in
theorem Tryz.slices_Sort_int (blk off cap : Nat) (zs : List Int) (w : World) (hH : Holds (Value.int .i64) w blk off zs.toArray) (hblk : blk < w.heap.size) (hsz : zs.length < 4611686018427387904) :
    Calls Tryz.prog 44 #[.slice (some ⟨blk, off, none⟩) zs.length cap] w fun e w' =>
      e = .returned (.tuple #[]) ∧ ∃ n os, w' = grow (putRow (Value.int .i64) (Sort.ahead w n) blk off (zs.mergeSort fun x y => decide (x ≤ y)).toArray) os := Any.slices_Sort_int Tryz.lays189 blk off cap zs w hH hblk hsz
open Go.RowKit Go.Sort in
theorem Tryz.slices_Sort_int_none (p : Option Addr) (cap : Nat) (w : World) :
    Calls Tryz.prog 44 #[.slice p 0 cap] w fun e w' => e = .returned (.tuple #[]) ∧ w' = w := Any.slices_Sort_int_none Tryz.lays189 p cap w
def Tryz.laysSortFunc_ren : Go.Shelf.Ren := ⟨fun | 6 => 119 | 15 => 93 | 14 => 188 | 28 => 160 | 29 => 161 | 20 => 251 | 21 => 252 | 22 => 253 | 23 => 254 | 24 => 255 | 25 => 256 | 26 => 257 | 27 => 258 | 46 => 307 | 47 => 231 | 48 => 232 | 49 => 308 | 50 => 309 | 57 => 328 | n => n, fun | 22 => 32 | 24 => 34 | 25 => 97 | 3 => 3 | 39 => 122 | 0 => 0 | 53 => 181 | 55 => 183 | 4 => 4 | 46 => 174 | 45 => 173 | 50 => 98 | 5 => 5 | 9 => 9 | 66 => 244 | 70 => 185 | 76 => 296 | 77 => 297 | n => n, fun | n => n⟩
theorem Tryz.laysSortFunc : Go.Proofs.SlLaysF0.n6 Tryz.prog Tryz.laysSortFunc_ren := {
  mixed := by kernel_rfl
  f6 := ⟨Tryz.f119.name, by decide, Tryz.func119.trans (congrArg some (by kernel_rfl))⟩
  f14 := ⟨Tryz.f188.name, by decide, Tryz.func188.trans (congrArg some (by kernel_rfl))⟩
  f15 := Tryz.func93.trans (congrArg some (by kernel_rfl))
  f20 := ⟨Tryz.f251.name, by decide, Tryz.func251.trans (congrArg some (by kernel_rfl))⟩
  f21 := ⟨Tryz.f252.name, by decide, Tryz.func252.trans (congrArg some (by kernel_rfl))⟩
  f22 := ⟨Tryz.f253.name, by decide, Tryz.func253.trans (congrArg some (by kernel_rfl))⟩
  f23 := ⟨Tryz.f254.name, by decide, Tryz.func254.trans (congrArg some (by kernel_rfl))⟩
  f24 := ⟨Tryz.f255.name, by decide, Tryz.func255.trans (congrArg some (by kernel_rfl))⟩
  f25 := ⟨Tryz.f256.name, by decide, Tryz.func256.trans (congrArg some (by kernel_rfl))⟩
  f26 := ⟨Tryz.f257.name, by decide, Tryz.func257.trans (congrArg some (by kernel_rfl))⟩
  f27 := ⟨Tryz.f258.name, by decide, Tryz.func258.trans (congrArg some (by kernel_rfl))⟩
  f28 := Tryz.func160.trans (congrArg some (by kernel_rfl))
  f29 := Tryz.func161.trans (congrArg some (by kernel_rfl))
  f46 := ⟨Tryz.f307.name, by decide, Tryz.func307.trans (congrArg some (by kernel_rfl))⟩
  f47 := Tryz.func231.trans (congrArg some (by kernel_rfl))
  f48 := Tryz.func232.trans (congrArg some (by kernel_rfl))
  f49 := ⟨Tryz.f308.name, by decide, Tryz.func308.trans (congrArg some (by kernel_rfl))⟩
  f50 := ⟨Tryz.f309.name, by decide, Tryz.func309.trans (congrArg some (by kernel_rfl))⟩
  f57 := ⟨Tryz.f328.name, by decide, Tryz.func328.trans (congrArg some (by kernel_rfl))⟩
  t0 := Tryz.underlying0
  a0 := Tryz.isAgg0
  z0 := Tryz.sizeOf0
  v0 := Tryz.zeroValue0
  t3 := Tryz.underlying3
  a3 := Tryz.isAgg3
  z3 := Tryz.sizeOf3
  v3 := Tryz.zeroValue3
  t4 := Tryz.underlying4
  a4 := Tryz.isAgg4
  z4 := Tryz.sizeOf4
  v4 := Tryz.zeroValue4
  t5 := Tryz.underlying5
  a5 := Tryz.isAgg5
  z5 := Tryz.sizeOf5
  v5 := Tryz.zeroValue5
  t9 := Tryz.underlying9
  a9 := Tryz.isAgg9
  z9 := Tryz.sizeOf9
  v9 := Tryz.zeroValue9
  t22 := Tryz.underlying32
  a22 := Tryz.isAgg32
  z22 := Tryz.sizeOf32
  v22 := Tryz.zeroValue32
  t25 := Tryz.underlying97
  a25 := Tryz.isAgg97
  z25 := Tryz.sizeOf97
  v25 := Tryz.zeroValue97
  t39 := Tryz.underlying122
  a39 := Tryz.isAgg122
  z39 := Tryz.sizeOf122
  v39 := Tryz.zeroValue122
  t45 := Tryz.underlying173
  a45 := Tryz.isAgg173
  z45 := Tryz.sizeOf173
  v45 := Tryz.zeroValue173
  t46 := Tryz.underlying174
  a46 := Tryz.isAgg174
  z46 := Tryz.sizeOf174
  v46 := Tryz.zeroValue174
  t50 := Tryz.underlying98
  a50 := Tryz.isAgg98
  z50 := Tryz.sizeOf98
  v50 := Tryz.zeroValue98
  t53 := Tryz.underlying181
  a53 := Tryz.isAgg181
  z53 := Tryz.sizeOf181
  v53 := Tryz.zeroValue181
  t55 := Tryz.underlying183
  a55 := Tryz.isAgg183
  z55 := Tryz.sizeOf183
  v55 := Tryz.zeroValue183
  t66 := Tryz.underlying244
  a66 := Tryz.isAgg244
  z66 := Tryz.sizeOf244
  v66 := Tryz.zeroValue244
  t70 := Tryz.underlying185
  a70 := Tryz.isAgg185
  z70 := Tryz.sizeOf185
  v70 := Tryz.zeroValue185
  t76 := Tryz.underlying296
  a76 := Tryz.isAgg296
  z76 := Tryz.sizeOf296
  v76 := Tryz.zeroValue296
  t77 := Tryz.underlying297
  a77 := Tryz.isAgg297
  z77 := Tryz.sizeOf297
  v77 := Tryz.zeroValue297 }
def Tryz.laysGrow_ren : Go.Shelf.Ren := ⟨fun | 4 => 182 | n => n, fun | 22 => 32 | 25 => 34 | 3 => 3 | 4 => 4 | 9 => 9 | 20 => 20 | 0 => 0 | n => n, fun | n => n⟩
theorem Tryz.laysGrow : Go.Proofs.Lays8.n4 Tryz.prog Tryz.laysGrow_ren := {
  mixed := by kernel_rfl
  f4 := ⟨Tryz.f182.name, by decide, Tryz.func182.trans (congrArg some (by kernel_rfl))⟩
  t0 := Tryz.underlying0
  a0 := Tryz.isAgg0
  z0 := Tryz.sizeOf0
  v0 := Tryz.zeroValue0
  t3 := Tryz.underlying3
  a3 := Tryz.isAgg3
  z3 := Tryz.sizeOf3
  v3 := Tryz.zeroValue3
  t4 := Tryz.underlying4
  a4 := Tryz.isAgg4
  z4 := Tryz.sizeOf4
  v4 := Tryz.zeroValue4
  t9 := Tryz.underlying9
  a9 := Tryz.isAgg9
  z9 := Tryz.sizeOf9
  v9 := Tryz.zeroValue9
  t20 := Tryz.underlying20
  a20 := Tryz.isAgg20
  z20 := Tryz.sizeOf20
  v20 := Tryz.zeroValue20
  t22 := Tryz.underlying32
  a22 := Tryz.isAgg32
  z22 := Tryz.sizeOf32
  v22 := Tryz.zeroValue32 }
end Go.Proofs
