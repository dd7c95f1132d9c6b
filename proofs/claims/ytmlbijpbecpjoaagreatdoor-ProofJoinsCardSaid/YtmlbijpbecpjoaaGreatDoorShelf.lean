/-
  Contracts of library functions at this program, in plain words (written by the shelf's tools).
-/
import Derived.Shelf.Strings.SlTrimAscii
import Derived.Shelf.SlSortCmp.WholeK
import Derived.Shelf.SlSortCmp.NoneTotal
import Derived.Shelf.Spec.SlicesGrow
import Derived.Shelf.Strings.Builder1
import Derived.Shelf.Strings.Trim
import Derived.Shelf.Small.Utf8
import Derived.Shelf.Small.Bits
import Derived.Shelf.Small.Strs
import Derived.Shelf.Utf8.RuneCount
import Derived.Shelf.Strconv.Atoi
import Derived.Shelf.Strconv.Itoa0
import Derived.Shelf.Strconv.Itoa1
import Derived.Shelf.LaysM
import Derived.Shelf.Strconv.Itoa2
import Derived.Shelf.Strconv.Itoa3
import Derived.Shelf.Strconv.AtoiErrFast
import Derived.Shelf.Strconv.ParseIntEmpty
import Derived.Shelf.Strconv.AtoiFail
import Derived.Shelf.Strconv.Clone
import Derived.Shelf.Strconv.SyntaxError
import Derived.Shelf.LaysC
import Derived.Shelf.Strconv.ToError
import Derived.Shelf.Strconv.AtoiErr
import Derived.Shelf.Strconv.ErrVar
import Derived.Shelf.Strconv.Lower
import Derived.Shelf.Strconv.ParseUint10
import Derived.Shelf.Strconv.ParseUint10Empty
import Derived.Shelf.Strconv.ParseUint10Any
import Derived.Shelf.Strconv.ParseInt10
import Derived.Shelf.Strconv.AtoiLong
import Derived.Shelf.Strconv.AtoiInnerAll
import Derived.Shelf.Strconv.RangeError
import Derived.Shelf.Strconv.ToErrorRange
import Derived.Shelf.Strconv.AtoiAll
import Derived.Shelf.Strconv.ErrVarAll
import Derived.Shelf.Strings.Search1
import Derived.Shelf.Strings.Search2
import Derived.Shelf.Strings.Search3
import Derived.Shelf.Strings.Cut
import Derived.Shelf.Strings.Count
import Derived.Shelf.Strings.Shaped
import Derived.Shelf.Sort.Plain
import Derived.Shelf.Strings.Split
import Derived.Shelf.Strings.SplitShaped
import Derived.Shelf.Unicode.Decode
import Derived.Shelf.Strings.Runes
import Derived.Shelf.Strings.RuneCount
import Derived.Shelf.Strings.AsciiSet
import Derived.Shelf.Strings.Explode
import Derived.Shelf.Unicode.DecodeSlow
import Derived.Shelf.Unicode.DecodeAny
import Derived.Shelf.Unicode.DecodeLast
import Derived.Ground.Names2Prog
import Derived.Shelf.Slices.Clone
import Derived.Shelf.Slices.CompactI
import Derived.Shelf.Slices.SearchI
import Derived.Shelf.Slices.Cells
import Derived.Shelf.Slices.In.SortNone
import Derived.Ground.SlgnProg
import Derived.Shelf.SlicesE.Clone
import Derived.Test.YtmlbijpbecpjoaaGreatDoorProg
namespace Go.Proofs
open Go.Shelf
def Tryz.lays160_ren : Go.Shelf.Ren := ⟨fun | 160 => 158 | 232 => 247 | 231 => 246 | 227 => 248 | 234 => 250 | 233 => 249 | 236 => 252 | 235 => 251 | 228 => 331 | 271 => 333 | 151 => 332 | 197 => 220 | 120 => 365 | 152 => 364 | 260 => 304 | 137 => 379 | 119 => 380 | 224 => 218 | 225 => 217 | 217 => 216 | 266 => 302 | n => n, fun | 9 => 9 | 4 => 4 | 3 => 3 | 5 => 5 | 117 => 236 | 116 => 235 | 0 => 0 | 124 => 239 | 21 => 21 | 105 => 215 | 46 => 126 | 119 => 315 | 139 => 318 | 138 => 317 | n => n, fun | 3 => 4 | 4 => 5 | n => n⟩
theorem Tryz.lays160 : Go.Proofs.Lays.n160 Tryz.prog Tryz.lays160_ren := {
  mixed := by kernel_rfl
  f119 := Tryz.func380.trans (congrArg some (by kernel_rfl))
  f120 := Tryz.func365.trans (congrArg some (by kernel_rfl))
  f137 := Tryz.func379.trans (congrArg some (by kernel_rfl))
  f151 := Tryz.func332.trans (congrArg some (by kernel_rfl))
  f152 := Tryz.func364.trans (congrArg some (by kernel_rfl))
  f160 := Tryz.func158.trans (congrArg some (by kernel_rfl))
  f197 := Tryz.func220.trans (congrArg some (by kernel_rfl))
  f217 := Tryz.func216.trans (congrArg some (by kernel_rfl))
  f224 := Tryz.func218.trans (congrArg some (by kernel_rfl))
  f225 := Tryz.func217.trans (congrArg some (by kernel_rfl))
  f227 := Tryz.func248.trans (congrArg some (by kernel_rfl))
  f228 := Tryz.func331.trans (congrArg some (by kernel_rfl))
  f231 := Tryz.func246.trans (congrArg some (by kernel_rfl))
  f232 := Tryz.func247.trans (congrArg some (by kernel_rfl))
  f233 := Tryz.func249.trans (congrArg some (by kernel_rfl))
  f234 := Tryz.func250.trans (congrArg some (by kernel_rfl))
  f235 := Tryz.func251.trans (congrArg some (by kernel_rfl))
  f236 := Tryz.func252.trans (congrArg some (by kernel_rfl))
  f260 := Tryz.func304.trans (congrArg some (by kernel_rfl))
  f266 := Tryz.func302.trans (congrArg some (by kernel_rfl))
  f271 := Tryz.func333.trans (congrArg some (by kernel_rfl))
  t0 := Tryz.underlying0
  a0 := Tryz.isAgg0
  z0 := Tryz.sizeOf0
  v0 := Tryz.zeroValue0
  t3 := Tryz.underlying3
  a3 := Tryz.isAgg3
  z3 := Tryz.sizeOf3
  v3 := Tryz.zeroValue3
  t4 := Tryz.underlying4
  a4 := Tryz.isAgg4
  z4 := Tryz.sizeOf4
  v4 := Tryz.zeroValue4
  t5 := Tryz.underlying5
  a5 := Tryz.isAgg5
  z5 := Tryz.sizeOf5
  v5 := Tryz.zeroValue5
  t9 := Tryz.underlying9
  a9 := Tryz.isAgg9
  z9 := Tryz.sizeOf9
  v9 := Tryz.zeroValue9
  t21 := Tryz.underlying21
  a21 := Tryz.isAgg21
  z21 := Tryz.sizeOf21
  v21 := Tryz.zeroValue21
  t46 := Tryz.underlying126
  a46 := Tryz.isAgg126
  z46 := Tryz.sizeOf126
  v46 := Tryz.zeroValue126
  t105 := Tryz.underlying215
  a105 := Tryz.isAgg215
  z105 := Tryz.sizeOf215
  v105 := Tryz.zeroValue215
  t116 := Tryz.underlying235
  a116 := Tryz.isAgg235
  z116 := Tryz.sizeOf235
  t117 := Tryz.underlying236
  a117 := Tryz.isAgg236
  z117 := Tryz.sizeOf236
  v117 := Tryz.zeroValue236
  t119 := Tryz.underlying315
  a119 := Tryz.isAgg315
  z119 := Tryz.sizeOf315
  t124 := Tryz.underlying239
  a124 := Tryz.isAgg239
  z124 := Tryz.sizeOf239
  v124 := Tryz.zeroValue239
  t138 := Tryz.underlying317
  a138 := Tryz.isAgg317
  z138 := Tryz.sizeOf317
  v138 := Tryz.zeroValue317
  t139 := Tryz.underlying318
  a139 := Tryz.isAgg318
  z139 := Tryz.sizeOf318
  v139 := Tryz.zeroValue318
  g3 := by kernel_rfl
  g4 := by kernel_rfl }
def Tryz.lays106_ren : Go.Shelf.Ren := ⟨fun | 106 => 99 | 213 => 176 | 265 => 269 | n => n, fun | 9 => 9 | 3 => 3 | n => n, fun | n => n⟩
theorem Tryz.lays106 : Go.Proofs.Lays.n106 Tryz.prog Tryz.lays106_ren := {
  mixed := by kernel_rfl
  f106 := Tryz.func99.trans (congrArg some (by kernel_rfl))
  f213 := Tryz.func176.trans (congrArg some (by kernel_rfl))
  f265 := Tryz.func269.trans (congrArg some (by kernel_rfl))
  t3 := Tryz.underlying3
  a3 := Tryz.isAgg3
  z3 := Tryz.sizeOf3
  v3 := Tryz.zeroValue3
  t9 := Tryz.underlying9
  a9 := Tryz.isAgg9
  z9 := Tryz.sizeOf9
  v9 := Tryz.zeroValue9 }
open Go.RowKit in
theorem Tryz.strings_Compare (a b : ByteArray) (w : World) :
    Calls Tryz.prog 99 #[.string a, .string b] w fun e w' => e = .returned (.int .i64 (Lib.compareBytes a.data.toList b.data.toList)) ∧ w' = w := Any.strings_Compare Tryz.lays106 a b w
def Tryz.laysM171_ren : Go.Shelf.Ren := ⟨fun | 171 => 144 | 243 => 230 | 246 => 311 | 283 => 353 | 284 => 354 | 285 => 355 | 286 => 356 | 129 => 175 | 317 => 370 | 318 => 371 | 319 => 372 | 320 => 373 | 337 => 384 | 338 => 385 | n => n, fun | 3 => 3 | 9 => 9 | 2 => 2 | 4 => 4 | 171 => 323 | 0 => 0 | 53 => 192 | 37 => 102 | 5 => 5 | 173 => 325 | 212 => 340 | 51 => 190 | 20 => 20 | 213 => 341 | 46 => 126 | 232 => 350 | 233 => 351 | n => n, fun | 17 => 6 | 18 => 7 | 19 => 8 | n => n⟩
theorem Tryz.laysM171 : Go.Proofs.LaysM.n171 Tryz.prog Tryz.laysM171_ren := {
  mixed := by kernel_rfl
  f129 := Tryz.func175.trans (congrArg some (by kernel_rfl))
  f171 := Tryz.func144.trans (congrArg some (by kernel_rfl))
  f243 := Tryz.func230.trans (congrArg some (by kernel_rfl))
  f246 := Tryz.func311.trans (congrArg some (by kernel_rfl))
  f283 := Tryz.func353.trans (congrArg some (by kernel_rfl))
  f284 := Tryz.func354.trans (congrArg some (by kernel_rfl))
  f285 := Tryz.func355.trans (congrArg some (by kernel_rfl))
  f286 := Tryz.func356.trans (congrArg some (by kernel_rfl))
  f317 := Tryz.func370.trans (congrArg some (by kernel_rfl))
  f318 := Tryz.func371.trans (congrArg some (by kernel_rfl))
  f319 := Tryz.func372.trans (congrArg some (by kernel_rfl))
  f320 := Tryz.func373.trans (congrArg some (by kernel_rfl))
  f337 := Tryz.func384.trans (congrArg some (by kernel_rfl))
  f338 := Tryz.func385.trans (congrArg some (by kernel_rfl))
  t0 := Tryz.underlying0
  a0 := Tryz.isAgg0
  z0 := Tryz.sizeOf0
  v0 := Tryz.zeroValue0
  t2 := Tryz.underlying2
  a2 := Tryz.isAgg2
  z2 := Tryz.sizeOf2
  v2 := Tryz.zeroValue2
  t3 := Tryz.underlying3
  a3 := Tryz.isAgg3
  z3 := Tryz.sizeOf3
  v3 := Tryz.zeroValue3
  t4 := Tryz.underlying4
  a4 := Tryz.isAgg4
  z4 := Tryz.sizeOf4
  v4 := Tryz.zeroValue4
  t5 := Tryz.underlying5
  a5 := Tryz.isAgg5
  z5 := Tryz.sizeOf5
  v5 := Tryz.zeroValue5
  t9 := Tryz.underlying9
  a9 := Tryz.isAgg9
  z9 := Tryz.sizeOf9
  v9 := Tryz.zeroValue9
  t20 := Tryz.underlying20
  a20 := Tryz.isAgg20
  z20 := Tryz.sizeOf20
  v20 := Tryz.zeroValue20
  t37 := Tryz.underlying102
  a37 := Tryz.isAgg102
  z37 := Tryz.sizeOf102
  v37 := Tryz.zeroValue102
  t46 := Tryz.underlying126
  a46 := Tryz.isAgg126
  z46 := Tryz.sizeOf126
  v46 := Tryz.zeroValue126
  t51 := Tryz.underlying190
  a51 := Tryz.isAgg190
  z51 := Tryz.sizeOf190
  v51 := Tryz.zeroValue190
  t53 := Tryz.underlying192
  a53 := Tryz.isAgg192
  z53 := Tryz.sizeOf192
  v53 := Tryz.zeroValue192
  t171 := Tryz.underlying323
  a171 := Tryz.isAgg323
  z171 := Tryz.sizeOf323
  v171 := Tryz.zeroValue323
  t173 := Tryz.underlying325
  a173 := Tryz.isAgg325
  z173 := Tryz.sizeOf325
  v173 := Tryz.zeroValue325
  t212 := Tryz.underlying340
  a212 := Tryz.isAgg340
  z212 := Tryz.sizeOf340
  v212 := Tryz.zeroValue340
  t213 := Tryz.underlying341
  a213 := Tryz.isAgg341
  z213 := Tryz.sizeOf341
  t232 := Tryz.underlying350
  a232 := Tryz.isAgg350
  z232 := Tryz.sizeOf350
  v232 := Tryz.zeroValue350
  t233 := Tryz.underlying351
  a233 := Tryz.isAgg351
  z233 := Tryz.sizeOf351
  v233 := Tryz.zeroValue351
  g17 := by kernel_rfl
  g18 := by kernel_rfl
  g19 := by kernel_rfl
  i0 := by kernel_rfl
  i2 := by kernel_rfl
  i3 := by kernel_rfl
  i4 := by kernel_rfl
  i5 := by kernel_rfl
  i9 := by kernel_rfl
  i20 := by kernel_rfl
  i37 := by kernel_rfl
  i46 := by kernel_rfl
  i51 := by kernel_rfl
  i53 := by kernel_rfl
  i171 := by kernel_rfl
  i173 := by kernel_rfl
  i212 := by kernel_rfl
  i232 := by kernel_rfl
  i233 := by kernel_rfl
  m17 := by kernel_rfl
  m18 := by kernel_rfl
  m19 := by kernel_rfl }
open Go.RowKit Go.Sort Go.Lib in
theorem Tryz.strconv_Itoa (n : Int) (h0 : -9223372036854775808 ≤ n) (h1 : n ≤ 9223372036854775807) (w : World) (htab : Lib.TabIs Tryz.prog w "internal/strconv.uint64pow10" .u64 Lib.pow10Tab) :
    Calls Tryz.prog 144 #[.int .i64 n] w fun e w' => e = .returned (.string ⟨(Lib.itoa n).toArray⟩) ∧ ∃ k os, w' = grow (w.drewN k) os := Any.strconv_Itoa Tryz.laysM171 n h0 h1 w htab
def Tryz.laysC172_ren : Go.Shelf.Ren := ⟨fun | 172 => 75 | 244 => 141 | 245 => 142 | 247 => 224 | 279 => 225 | 280 => 226 | 281 => 227 | 282 => 228 | 287 => 307 | 316 => 308 | 171 => 144 | 205 => 309 | 321 => 351 | 322 => 352 | 243 => 230 | 246 => 311 | 283 => 353 | 284 => 354 | 285 => 355 | 286 => 356 | 129 => 175 | 317 => 370 | 318 => 371 | 319 => 372 | 320 => 373 | 337 => 384 | 338 => 385 | n => n, fun | 9 => 9 | 3 => 3 | 75 => 98 | 76 => 99 | 4 => 4 | 5 => 5 | 167 => 219 | 37 => 102 | 0 => 0 | 85 => 220 | 2 => 2 | 168 => 222 | 53 => 192 | 175 => 278 | 46 => 126 | 210 => 281 | 127 => 162 | 145 => 322 | 143 => 320 | 21 => 21 | 171 => 323 | 173 => 325 | 212 => 340 | 51 => 190 | 20 => 20 | 213 => 341 | 232 => 350 | 233 => 351 | 80 => 107 | n => n, fun | 15 => 2 | 16 => 3 | 17 => 6 | 18 => 7 | 19 => 8 | n => n⟩
theorem Tryz.laysC172 : Go.Proofs.LaysC.n172 Tryz.prog Tryz.laysC172_ren := {
  mixed := by kernel_rfl
  f129 := Tryz.func175.trans (congrArg some (by kernel_rfl))
  f171 := Tryz.func144.trans (congrArg some (by kernel_rfl))
  f172 := Tryz.func75.trans (congrArg some (by kernel_rfl))
  f205 := Tryz.func309.trans (congrArg some (by kernel_rfl))
  f243 := Tryz.func230.trans (congrArg some (by kernel_rfl))
  f244 := Tryz.func141.trans (congrArg some (by kernel_rfl))
  f245 := Tryz.func142.trans (congrArg some (by kernel_rfl))
  f246 := Tryz.func311.trans (congrArg some (by kernel_rfl))
  f247 := Tryz.func224.trans (congrArg some (by kernel_rfl))
  f279 := Tryz.func225.trans (congrArg some (by kernel_rfl))
  f280 := Tryz.func226.trans (congrArg some (by kernel_rfl))
  f281 := Tryz.func227.trans (congrArg some (by kernel_rfl))
  f282 := Tryz.func228.trans (congrArg some (by kernel_rfl))
  f283 := Tryz.func353.trans (congrArg some (by kernel_rfl))
  f284 := Tryz.func354.trans (congrArg some (by kernel_rfl))
  f285 := Tryz.func355.trans (congrArg some (by kernel_rfl))
  f286 := Tryz.func356.trans (congrArg some (by kernel_rfl))
  f287 := Tryz.func307.trans (congrArg some (by kernel_rfl))
  f316 := Tryz.func308.trans (congrArg some (by kernel_rfl))
  f317 := Tryz.func370.trans (congrArg some (by kernel_rfl))
  f318 := Tryz.func371.trans (congrArg some (by kernel_rfl))
  f319 := Tryz.func372.trans (congrArg some (by kernel_rfl))
  f320 := Tryz.func373.trans (congrArg some (by kernel_rfl))
  f321 := Tryz.func351.trans (congrArg some (by kernel_rfl))
  f322 := Tryz.func352.trans (congrArg some (by kernel_rfl))
  f337 := Tryz.func384.trans (congrArg some (by kernel_rfl))
  f338 := Tryz.func385.trans (congrArg some (by kernel_rfl))
  t0 := Tryz.underlying0
  a0 := Tryz.isAgg0
  z0 := Tryz.sizeOf0
  v0 := Tryz.zeroValue0
  t2 := Tryz.underlying2
  a2 := Tryz.isAgg2
  z2 := Tryz.sizeOf2
  v2 := Tryz.zeroValue2
  t3 := Tryz.underlying3
  a3 := Tryz.isAgg3
  z3 := Tryz.sizeOf3
  v3 := Tryz.zeroValue3
  t4 := Tryz.underlying4
  a4 := Tryz.isAgg4
  z4 := Tryz.sizeOf4
  v4 := Tryz.zeroValue4
  t5 := Tryz.underlying5
  a5 := Tryz.isAgg5
  z5 := Tryz.sizeOf5
  v5 := Tryz.zeroValue5
  t9 := Tryz.underlying9
  a9 := Tryz.isAgg9
  z9 := Tryz.sizeOf9
  v9 := Tryz.zeroValue9
  t20 := Tryz.underlying20
  a20 := Tryz.isAgg20
  z20 := Tryz.sizeOf20
  v20 := Tryz.zeroValue20
  t21 := Tryz.underlying21
  a21 := Tryz.isAgg21
  z21 := Tryz.sizeOf21
  v21 := Tryz.zeroValue21
  t37 := Tryz.underlying102
  a37 := Tryz.isAgg102
  z37 := Tryz.sizeOf102
  v37 := Tryz.zeroValue102
  t46 := Tryz.underlying126
  a46 := Tryz.isAgg126
  z46 := Tryz.sizeOf126
  v46 := Tryz.zeroValue126
  t51 := Tryz.underlying190
  a51 := Tryz.isAgg190
  z51 := Tryz.sizeOf190
  v51 := Tryz.zeroValue190
  t53 := Tryz.underlying192
  a53 := Tryz.isAgg192
  z53 := Tryz.sizeOf192
  v53 := Tryz.zeroValue192
  t75 := Tryz.underlying98
  a75 := Tryz.isAgg98
  z75 := Tryz.sizeOf98
  v75 := Tryz.zeroValue98
  t76 := Tryz.underlying99
  a76 := Tryz.isAgg99
  z76 := Tryz.sizeOf99
  v76 := Tryz.zeroValue99
  t85 := Tryz.underlying220
  a85 := Tryz.isAgg220
  z85 := Tryz.sizeOf220
  v85 := Tryz.zeroValue220
  t127 := Tryz.underlying162
  a127 := Tryz.isAgg162
  z127 := Tryz.sizeOf162
  v127 := Tryz.zeroValue162
  t143 := Tryz.underlying320
  a143 := Tryz.isAgg320
  z143 := Tryz.sizeOf320
  v143 := Tryz.zeroValue320
  t145 := Tryz.underlying322
  a145 := Tryz.isAgg322
  z145 := Tryz.sizeOf322
  v145 := Tryz.zeroValue322
  t167 := Tryz.underlying219
  a167 := Tryz.isAgg219
  z167 := Tryz.sizeOf219
  v167 := Tryz.zeroValue219
  t168 := Tryz.underlying222
  a168 := Tryz.isAgg222
  z168 := Tryz.sizeOf222
  v168 := Tryz.zeroValue222
  t171 := Tryz.underlying323
  a171 := Tryz.isAgg323
  z171 := Tryz.sizeOf323
  v171 := Tryz.zeroValue323
  t173 := Tryz.underlying325
  a173 := Tryz.isAgg325
  z173 := Tryz.sizeOf325
  v173 := Tryz.zeroValue325
  t175 := Tryz.underlying278
  a175 := Tryz.isAgg278
  z175 := Tryz.sizeOf278
  v175 := Tryz.zeroValue278
  t210 := Tryz.underlying281
  a210 := Tryz.isAgg281
  z210 := Tryz.sizeOf281
  v210 := Tryz.zeroValue281
  t212 := Tryz.underlying340
  a212 := Tryz.isAgg340
  z212 := Tryz.sizeOf340
  v212 := Tryz.zeroValue340
  t213 := Tryz.underlying341
  a213 := Tryz.isAgg341
  z213 := Tryz.sizeOf341
  t232 := Tryz.underlying350
  a232 := Tryz.isAgg350
  z232 := Tryz.sizeOf350
  v232 := Tryz.zeroValue350
  t233 := Tryz.underlying351
  a233 := Tryz.isAgg351
  z233 := Tryz.sizeOf351
  v233 := Tryz.zeroValue351
  g15 := by kernel_rfl
  g16 := by kernel_rfl
  g17 := by kernel_rfl
  g18 := by kernel_rfl
  g19 := by kernel_rfl
  t80 := Tryz.underlying107
  a80 := Tryz.isAgg107
  z80 := Tryz.sizeOf107
  v80 := Tryz.zeroValue107
  i0 := by kernel_rfl
  i2 := by kernel_rfl
  i3 := by kernel_rfl
  i4 := by kernel_rfl
  i5 := by kernel_rfl
  i9 := by kernel_rfl
  i20 := by kernel_rfl
  i21 := by kernel_rfl
  i37 := by kernel_rfl
  i46 := by kernel_rfl
  i51 := by kernel_rfl
  i53 := by kernel_rfl
  i75 := by kernel_rfl
  i76 := by kernel_rfl
  i80 := by kernel_rfl
  i85 := by kernel_rfl
  i127 := by kernel_rfl
  i143 := by kernel_rfl
  i145 := by kernel_rfl
  i167 := by kernel_rfl
  i168 := by kernel_rfl
  i171 := by kernel_rfl
  i173 := by kernel_rfl
  i175 := by kernel_rfl
  i210 := by kernel_rfl
  i212 := by kernel_rfl
  i232 := by kernel_rfl
  i233 := by kernel_rfl
  m15 := by kernel_rfl
  m16 := by kernel_rfl
  m17 := by kernel_rfl
  m18 := by kernel_rfl
  m19 := by kernel_rfl
  c0 := by kernel_rfl
  c2 := by kernel_rfl
  c3 := by kernel_rfl
  c4 := by kernel_rfl
  c5 := by kernel_rfl
  c9 := by kernel_rfl
  c20 := by kernel_rfl
  c21 := by kernel_rfl
  c37 := by kernel_rfl
  c46 := by kernel_rfl
  c51 := by kernel_rfl
  c53 := by kernel_rfl
  c75 := by kernel_rfl
  c76 := by kernel_rfl
  c80 := by kernel_rfl
  c85 := by kernel_rfl
  c127 := by kernel_rfl
  c143 := by kernel_rfl
  c145 := by kernel_rfl
  c167 := by kernel_rfl
  c168 := by kernel_rfl
  c171 := by kernel_rfl
  c173 := by kernel_rfl
  c175 := by kernel_rfl
  c210 := by kernel_rfl
  c212 := by kernel_rfl
  c213 := by kernel_rfl
  c232 := by kernel_rfl
  c233 := by kernel_rfl }
open Go.RowKit in
theorem Tryz.strconv_Atoi_ok (s : ByteArray) (hmax : s.size ≤ 9223372036854775806) (v : Int) (h : Lib.atoiAll s.data.toList = .ok v) (w : World) :
    Calls Tryz.prog 75 #[.string s] w fun e w' => e = .returned (.tuple #[.int .i64 v, .nilIface]) ∧ (w' = w ∨ ∃ t, w' = Lib.bytesWorld w 5 t) := Any.strconv_Atoi_ok Tryz.laysC172 s hmax v h w
open Go.RowKit in
theorem Tryz.strconv_Atoi_syntax_var (s : ByteArray) (hlim : s.size ≤ 281474976710656) (h : Lib.atoiAll s.data.toList = Lib.NumEnd.syntax) (tp : TypeId) (p : Value) (w : World) (hvar : w.var? Tryz.prog "strconv.ErrSyntax" = some #[.iface tp p]) :
    Calls Tryz.prog 75 #[.string s] w fun e w' => ∃ N, e = .returned (.tuple #[.int .i64 0, .iface 222 (.pointer (some ⟨N, 0, none⟩))]) ∧ w.heap.size ≤ N ∧ w'.heap[N]? = some (.cells #[.string ⟨#[65, 116, 111, 105]⟩, .string s, .iface tp p] 281 (0, 0)) ∧ Below w.heap.size w w' := Any.strconv_Atoi_syntax_var Tryz.laysC172 s hlim h tp p w hvar
open Go.RowKit in
theorem Tryz.strconv_Atoi_range_var (s : ByteArray) (hlim : s.size ≤ 281474976710656) (h : Lib.atoiAll s.data.toList = .range) (tp : TypeId) (p : Value) (w : World) (hvar : w.var? Tryz.prog "strconv.ErrRange" = some #[.iface tp p]) :
    Calls Tryz.prog 75 #[.string s] w fun e w' => ∃ N, e = .returned (.tuple #[.int .i64 (Lib.atoiSat s.data.toList), .iface 222 (.pointer (some ⟨N, 0, none⟩))]) ∧ w.heap.size ≤ N ∧ w'.heap[N]? = some (.cells #[.string ⟨#[65, 116, 111, 105]⟩, .string s, .iface tp p] 281 (0, 0)) ∧ Below w.heap.size w w' := Any.strconv_Atoi_range_var Tryz.laysC172 s hlim h tp p w hvar
def Tryz.lays217_ren : Go.Shelf.Ren := ⟨fun | 217 => 216 | 266 => 302 | n => n, fun | 9 => 9 | 5 => 5 | 3 => 3 | n => n, fun | n => n⟩
theorem Tryz.lays217 : Go.Proofs.Lays.n217 Tryz.prog Tryz.lays217_ren := {
  mixed := by kernel_rfl
  f217 := Tryz.func216.trans (congrArg some (by kernel_rfl))
  f266 := Tryz.func302.trans (congrArg some (by kernel_rfl))
  t3 := Tryz.underlying3
  a3 := Tryz.isAgg3
  z3 := Tryz.sizeOf3
  v3 := Tryz.zeroValue3
  t5 := Tryz.underlying5
  a5 := Tryz.isAgg5
  z5 := Tryz.sizeOf5
  v5 := Tryz.zeroValue5
  t9 := Tryz.underlying9
  a9 := Tryz.isAgg9
  z9 := Tryz.sizeOf9
  v9 := Tryz.zeroValue9 }
open Go.RowKit Go.Lib in
theorem Tryz.stringslite_IndexByte (s : ByteArray) (c : Int) (w : World) :
    Calls Tryz.prog 216 #[.string s, .int .u8 c] w fun e w' => e = .returned (.int .i64 (Lib.indexByte s.data.toList c.toNat.toUInt8)) ∧ w' = w := Any.stringslite_IndexByte Tryz.lays217 s c w
def Tryz.lays219_ren : Go.Shelf.Ren := ⟨fun | 219 => 137 | 217 => 216 | 225 => 217 | 224 => 218 | 267 => 219 | 266 => 302 | 314 => 303 | n => n, fun | 9 => 9 | 3 => 3 | 4 => 4 | 5 => 5 | 46 => 126 | 146 => 276 | 51 => 190 | n => n, fun | 1 => 0 | n => n⟩
theorem Tryz.lays219 : Go.Proofs.Lays.n219 Tryz.prog Tryz.lays219_ren := {
  mixed := by kernel_rfl
  f217 := Tryz.func216.trans (congrArg some (by kernel_rfl))
  f219 := Tryz.func137.trans (congrArg some (by kernel_rfl))
  f224 := Tryz.func218.trans (congrArg some (by kernel_rfl))
  f225 := Tryz.func217.trans (congrArg some (by kernel_rfl))
  f266 := Tryz.func302.trans (congrArg some (by kernel_rfl))
  f267 := Tryz.func219.trans (congrArg some (by kernel_rfl))
  f314 := Tryz.func303.trans (congrArg some (by kernel_rfl))
  t3 := Tryz.underlying3
  a3 := Tryz.isAgg3
  z3 := Tryz.sizeOf3
  v3 := Tryz.zeroValue3
  t4 := Tryz.underlying4
  a4 := Tryz.isAgg4
  z4 := Tryz.sizeOf4
  v4 := Tryz.zeroValue4
  t5 := Tryz.underlying5
  a5 := Tryz.isAgg5
  z5 := Tryz.sizeOf5
  v5 := Tryz.zeroValue5
  t9 := Tryz.underlying9
  a9 := Tryz.isAgg9
  z9 := Tryz.sizeOf9
  v9 := Tryz.zeroValue9
  t46 := Tryz.underlying126
  a46 := Tryz.isAgg126
  z46 := Tryz.sizeOf126
  v46 := Tryz.zeroValue126
  t51 := Tryz.underlying190
  a51 := Tryz.isAgg190
  z51 := Tryz.sizeOf190
  v51 := Tryz.zeroValue190
  t146 := Tryz.underlying276
  a146 := Tryz.isAgg276
  z146 := Tryz.sizeOf276
  v146 := Tryz.zeroValue276
  g1 := by kernel_rfl }
open Go.RowKit Go.Lib in
theorem Tryz.stringslite_Index (s sub : ByteArray) (m : Int) (w : World) (hs : s.size < 4294967281) (hm : w.cell? ⟨0, 0, none⟩ = some (.int .i64 m)) :
    Calls Tryz.prog 137 #[.string s, .string sub] w fun e w' => e = .returned (.int .i64 (Lib.index s.data.toList sub.data.toList)) ∧ w' = w := Any.stringslite_Index Tryz.lays219 s sub m w hs hm
def Tryz.lays138_ren : Go.Shelf.Ren := ⟨fun | 138 => 32 | 195 => 68 | 218 => 69 | 143 => 70 | 219 => 137 | 217 => 216 | 225 => 217 | 224 => 218 | 267 => 219 | 266 => 302 | 314 => 303 | n => n, fun | 9 => 9 | 3 => 3 | 4 => 4 | 5 => 5 | 0 => 0 | 46 => 126 | 146 => 276 | 51 => 190 | n => n, fun | 1 => 0 | n => n⟩
theorem Tryz.lays138 : Go.Proofs.Lays.n138 Tryz.prog Tryz.lays138_ren := {
  mixed := by kernel_rfl
  f138 := Tryz.func32.trans (congrArg some (by kernel_rfl))
  f143 := Tryz.func70.trans (congrArg some (by kernel_rfl))
  f195 := Tryz.func68.trans (congrArg some (by kernel_rfl))
  f217 := Tryz.func216.trans (congrArg some (by kernel_rfl))
  f218 := Tryz.func69.trans (congrArg some (by kernel_rfl))
  f219 := Tryz.func137.trans (congrArg some (by kernel_rfl))
  f224 := Tryz.func218.trans (congrArg some (by kernel_rfl))
  f225 := Tryz.func217.trans (congrArg some (by kernel_rfl))
  f266 := Tryz.func302.trans (congrArg some (by kernel_rfl))
  f267 := Tryz.func219.trans (congrArg some (by kernel_rfl))
  f314 := Tryz.func303.trans (congrArg some (by kernel_rfl))
  t0 := Tryz.underlying0
  a0 := Tryz.isAgg0
  z0 := Tryz.sizeOf0
  v0 := Tryz.zeroValue0
  t3 := Tryz.underlying3
  a3 := Tryz.isAgg3
  z3 := Tryz.sizeOf3
  v3 := Tryz.zeroValue3
  t4 := Tryz.underlying4
  a4 := Tryz.isAgg4
  z4 := Tryz.sizeOf4
  v4 := Tryz.zeroValue4
  t5 := Tryz.underlying5
  a5 := Tryz.isAgg5
  z5 := Tryz.sizeOf5
  v5 := Tryz.zeroValue5
  t9 := Tryz.underlying9
  a9 := Tryz.isAgg9
  z9 := Tryz.sizeOf9
  v9 := Tryz.zeroValue9
  t46 := Tryz.underlying126
  a46 := Tryz.isAgg126
  z46 := Tryz.sizeOf126
  v46 := Tryz.zeroValue126
  t51 := Tryz.underlying190
  a51 := Tryz.isAgg190
  z51 := Tryz.sizeOf190
  v51 := Tryz.zeroValue190
  t146 := Tryz.underlying276
  a146 := Tryz.isAgg276
  z146 := Tryz.sizeOf276
  v146 := Tryz.zeroValue276
  g1 := by kernel_rfl }
open Go.RowKit Go.Lib in
theorem Tryz.strings_Count_one (s : ByteArray) (c : UInt8) (w : World) :
    Calls Tryz.prog 32 #[.string s, .string ⟨#[c]⟩] w fun e w' => e = .returned (.int .i64 (Lib.countByte s.data.toList c)) ∧ w' = w := Any.strings_Count_one Tryz.lays138 s c w
def Tryz.lays189_ren : Go.Shelf.Ren := ⟨fun | 189 => 43 | 125 => 96 | 257 => 95 | 128 => 174 | 129 => 175 | 294 => 165 | 295 => 166 | 296 => 167 | 297 => 168 | 298 => 169 | 299 => 170 | 216 => 171 | 300 => 172 | 301 => 173 | 328 => 263 | 329 => 264 | 330 => 265 | 331 => 266 | 332 => 267 | 215 => 268 | 343 => 340 | n => n, fun | 28 => 33 | 3 => 3 | 46 => 126 | 0 => 0 | 51 => 190 | 53 => 192 | 4 => 4 | 183 => 183 | 182 => 182 | 131 => 169 | 5 => 5 | 9 => 9 | 218 => 255 | 222 => 204 | 228 => 306 | 229 => 307 | n => n, fun | n => n⟩
theorem Tryz.lays189 : Go.Proofs.Lays.n189 Tryz.prog Tryz.lays189_ren := {
  mixed := by kernel_rfl
  f125 := Tryz.func96.trans (congrArg some (by kernel_rfl))
  f128 := Tryz.func174.trans (congrArg some (by kernel_rfl))
  f129 := Tryz.func175.trans (congrArg some (by kernel_rfl))
  f189 := Tryz.func43.trans (congrArg some (by kernel_rfl))
  f215 := Tryz.func268.trans (congrArg some (by kernel_rfl))
  f216 := Tryz.func171.trans (congrArg some (by kernel_rfl))
  f257 := Tryz.func95.trans (congrArg some (by kernel_rfl))
  f294 := Tryz.func165.trans (congrArg some (by kernel_rfl))
  f295 := Tryz.func166.trans (congrArg some (by kernel_rfl))
  f296 := Tryz.func167.trans (congrArg some (by kernel_rfl))
  f297 := Tryz.func168.trans (congrArg some (by kernel_rfl))
  f298 := Tryz.func169.trans (congrArg some (by kernel_rfl))
  f299 := Tryz.func170.trans (congrArg some (by kernel_rfl))
  f300 := Tryz.func172.trans (congrArg some (by kernel_rfl))
  f301 := Tryz.func173.trans (congrArg some (by kernel_rfl))
  f328 := Tryz.func263.trans (congrArg some (by kernel_rfl))
  f329 := Tryz.func264.trans (congrArg some (by kernel_rfl))
  f330 := Tryz.func265.trans (congrArg some (by kernel_rfl))
  f331 := Tryz.func266.trans (congrArg some (by kernel_rfl))
  f332 := Tryz.func267.trans (congrArg some (by kernel_rfl))
  f343 := Tryz.func340.trans (congrArg some (by kernel_rfl))
  t0 := Tryz.underlying0
  a0 := Tryz.isAgg0
  z0 := Tryz.sizeOf0
  v0 := Tryz.zeroValue0
  t3 := Tryz.underlying3
  a3 := Tryz.isAgg3
  z3 := Tryz.sizeOf3
  v3 := Tryz.zeroValue3
  t4 := Tryz.underlying4
  a4 := Tryz.isAgg4
  z4 := Tryz.sizeOf4
  v4 := Tryz.zeroValue4
  t5 := Tryz.underlying5
  a5 := Tryz.isAgg5
  z5 := Tryz.sizeOf5
  v5 := Tryz.zeroValue5
  t9 := Tryz.underlying9
  a9 := Tryz.isAgg9
  z9 := Tryz.sizeOf9
  v9 := Tryz.zeroValue9
  t28 := Tryz.underlying33
  a28 := Tryz.isAgg33
  z28 := Tryz.sizeOf33
  v28 := Tryz.zeroValue33
  t46 := Tryz.underlying126
  a46 := Tryz.isAgg126
  z46 := Tryz.sizeOf126
  v46 := Tryz.zeroValue126
  t51 := Tryz.underlying190
  a51 := Tryz.isAgg190
  z51 := Tryz.sizeOf190
  v51 := Tryz.zeroValue190
  t53 := Tryz.underlying192
  a53 := Tryz.isAgg192
  z53 := Tryz.sizeOf192
  v53 := Tryz.zeroValue192
  t131 := Tryz.underlying169
  a131 := Tryz.isAgg169
  z131 := Tryz.sizeOf169
  v131 := Tryz.zeroValue169
  t182 := Tryz.underlying182
  a182 := Tryz.isAgg182
  z182 := Tryz.sizeOf182
  v182 := Tryz.zeroValue182
  t183 := Tryz.underlying183
  a183 := Tryz.isAgg183
  z183 := Tryz.sizeOf183
  v183 := Tryz.zeroValue183
  t218 := Tryz.underlying255
  a218 := Tryz.isAgg255
  z218 := Tryz.sizeOf255
  v218 := Tryz.zeroValue255
  t222 := Tryz.underlying204
  a222 := Tryz.isAgg204
  z222 := Tryz.sizeOf204
  v222 := Tryz.zeroValue204
  t228 := Tryz.underlying306
  a228 := Tryz.isAgg306
  z228 := Tryz.sizeOf306
  v228 := Tryz.zeroValue306
  t229 := Tryz.underlying307
  a229 := Tryz.isAgg307
  z229 := Tryz.sizeOf307
  v229 := Tryz.zeroValue307 }
open Go.Sort Go.RowKit in
theorem Tryz.slices_Sort_int (blk off cap : Nat) (zs : List Int) (w : World) (hH : Holds (Value.int .i64) w blk off zs.toArray) (hblk : blk < w.heap.size) (hsz : zs.length < 4611686018427387904) :
    Calls Tryz.prog 43 #[.slice (some ⟨blk, off, none⟩) zs.length cap] w fun e w' =>
      e = .returned (.tuple #[]) ∧ ∃ n os, w' = grow (putRow (Value.int .i64) (Sort.ahead w n) blk off (zs.mergeSort fun x y => decide (x ≤ y)).toArray) os := Any.slices_Sort_int Tryz.lays189 blk off cap zs w hH hblk hsz
open Go.RowKit Go.Sort in
theorem Tryz.slices_Sort_int_none (p : Option Addr) (cap : Nat) (w : World) :
    Calls Tryz.prog 43 #[.slice p 0 cap] w fun e w' => e = .returned (.tuple #[]) ∧ w' = w := Any.slices_Sort_int_none Tryz.lays189 p cap w
def Tryz.laysSortFunc_ren : Go.Shelf.Ren := ⟨fun | 6 => 150 | 15 => 96 | 14 => 236 | 28 => 174 | 29 => 175 | 20 => 312 | 21 => 313 | 22 => 314 | 23 => 315 | 24 => 316 | 25 => 317 | 26 => 318 | 27 => 319 | 46 => 357 | 47 => 264 | 48 => 265 | 49 => 358 | 50 => 359 | 57 => 374 | n => n, fun | 22 => 22 | 24 => 35 | 25 => 77 | 3 => 3 | 39 => 126 | 0 => 0 | 53 => 190 | 55 => 192 | 4 => 4 | 46 => 183 | 45 => 182 | 50 => 169 | 5 => 5 | 9 => 9 | 66 => 255 | 70 => 204 | 76 => 306 | 77 => 307 | n => n, fun | n => n⟩
theorem Tryz.laysSortFunc : Go.Proofs.SlLaysF0.n6 Tryz.prog Tryz.laysSortFunc_ren := {
  mixed := by kernel_rfl
  f6 := ⟨Tryz.f150.name, by decide, Tryz.func150.trans (congrArg some (by kernel_rfl))⟩
  f14 := ⟨Tryz.f236.name, by decide, Tryz.func236.trans (congrArg some (by kernel_rfl))⟩
  f15 := Tryz.func96.trans (congrArg some (by kernel_rfl))
  f20 := ⟨Tryz.f312.name, by decide, Tryz.func312.trans (congrArg some (by kernel_rfl))⟩
  f21 := ⟨Tryz.f313.name, by decide, Tryz.func313.trans (congrArg some (by kernel_rfl))⟩
  f22 := ⟨Tryz.f314.name, by decide, Tryz.func314.trans (congrArg some (by kernel_rfl))⟩
  f23 := ⟨Tryz.f315.name, by decide, Tryz.func315.trans (congrArg some (by kernel_rfl))⟩
  f24 := ⟨Tryz.f316.name, by decide, Tryz.func316.trans (congrArg some (by kernel_rfl))⟩
  f25 := ⟨Tryz.f317.name, by decide, Tryz.func317.trans (congrArg some (by kernel_rfl))⟩
  f26 := ⟨Tryz.f318.name, by decide, Tryz.func318.trans (congrArg some (by kernel_rfl))⟩
  f27 := ⟨Tryz.f319.name, by decide, Tryz.func319.trans (congrArg some (by kernel_rfl))⟩
  f28 := Tryz.func174.trans (congrArg some (by kernel_rfl))
  f29 := Tryz.func175.trans (congrArg some (by kernel_rfl))
  f46 := ⟨Tryz.f357.name, by decide, Tryz.func357.trans (congrArg some (by kernel_rfl))⟩
  f47 := Tryz.func264.trans (congrArg some (by kernel_rfl))
  f48 := Tryz.func265.trans (congrArg some (by kernel_rfl))
  f49 := ⟨Tryz.f358.name, by decide, Tryz.func358.trans (congrArg some (by kernel_rfl))⟩
  f50 := ⟨Tryz.f359.name, by decide, Tryz.func359.trans (congrArg some (by kernel_rfl))⟩
  f57 := ⟨Tryz.f374.name, by decide, Tryz.func374.trans (congrArg some (by kernel_rfl))⟩
  t0 := Tryz.underlying0
  a0 := Tryz.isAgg0
  z0 := Tryz.sizeOf0
  v0 := Tryz.zeroValue0
  t3 := Tryz.underlying3
  a3 := Tryz.isAgg3
  z3 := Tryz.sizeOf3
  v3 := Tryz.zeroValue3
  t4 := Tryz.underlying4
  a4 := Tryz.isAgg4
  z4 := Tryz.sizeOf4
  v4 := Tryz.zeroValue4
  t5 := Tryz.underlying5
  a5 := Tryz.isAgg5
  z5 := Tryz.sizeOf5
  v5 := Tryz.zeroValue5
  t9 := Tryz.underlying9
  a9 := Tryz.isAgg9
  z9 := Tryz.sizeOf9
  v9 := Tryz.zeroValue9
  t22 := Tryz.underlying22
  a22 := Tryz.isAgg22
  z22 := Tryz.sizeOf22
  v22 := Tryz.zeroValue22
  t25 := Tryz.underlying77
  a25 := Tryz.isAgg77
  z25 := Tryz.sizeOf77
  v25 := Tryz.zeroValue77
  t39 := Tryz.underlying126
  a39 := Tryz.isAgg126
  z39 := Tryz.sizeOf126
  v39 := Tryz.zeroValue126
  t45 := Tryz.underlying182
  a45 := Tryz.isAgg182
  z45 := Tryz.sizeOf182
  v45 := Tryz.zeroValue182
  t46 := Tryz.underlying183
  a46 := Tryz.isAgg183
  z46 := Tryz.sizeOf183
  v46 := Tryz.zeroValue183
  t50 := Tryz.underlying169
  a50 := Tryz.isAgg169
  z50 := Tryz.sizeOf169
  v50 := Tryz.zeroValue169
  t53 := Tryz.underlying190
  a53 := Tryz.isAgg190
  z53 := Tryz.sizeOf190
  v53 := Tryz.zeroValue190
  t55 := Tryz.underlying192
  a55 := Tryz.isAgg192
  z55 := Tryz.sizeOf192
  v55 := Tryz.zeroValue192
  t66 := Tryz.underlying255
  a66 := Tryz.isAgg255
  z66 := Tryz.sizeOf255
  v66 := Tryz.zeroValue255
  t70 := Tryz.underlying204
  a70 := Tryz.isAgg204
  z70 := Tryz.sizeOf204
  v70 := Tryz.zeroValue204
  t76 := Tryz.underlying306
  a76 := Tryz.isAgg306
  z76 := Tryz.sizeOf306
  v76 := Tryz.zeroValue306
  t77 := Tryz.underlying307
  a77 := Tryz.isAgg307
  z77 := Tryz.sizeOf307
  v77 := Tryz.zeroValue307 }
def Tryz.laysGrow_ren : Go.Shelf.Ren := ⟨fun | 4 => 232 | n => n, fun | 22 => 22 | 25 => 35 | 3 => 3 | 4 => 4 | 9 => 9 | 20 => 20 | 0 => 0 | n => n, fun | n => n⟩
theorem Tryz.laysGrow : Go.Proofs.Lays8.n4 Tryz.prog Tryz.laysGrow_ren := {
  mixed := by kernel_rfl
  f4 := ⟨Tryz.f232.name, by decide, Tryz.func232.trans (congrArg some (by kernel_rfl))⟩
  t0 := Tryz.underlying0
  a0 := Tryz.isAgg0
  z0 := Tryz.sizeOf0
  v0 := Tryz.zeroValue0
  t3 := Tryz.underlying3
  a3 := Tryz.isAgg3
  z3 := Tryz.sizeOf3
  v3 := Tryz.zeroValue3
  t4 := Tryz.underlying4
  a4 := Tryz.isAgg4
  z4 := Tryz.sizeOf4
  v4 := Tryz.zeroValue4
  t9 := Tryz.underlying9
  a9 := Tryz.isAgg9
  z9 := Tryz.sizeOf9
  v9 := Tryz.zeroValue9
  t20 := Tryz.underlying20
  a20 := Tryz.isAgg20
  z20 := Tryz.sizeOf20
  v20 := Tryz.zeroValue20
  t22 := Tryz.underlying22
  a22 := Tryz.isAgg22
  z22 := Tryz.sizeOf22
  v22 := Tryz.zeroValue22 }
end Go.Proofs
