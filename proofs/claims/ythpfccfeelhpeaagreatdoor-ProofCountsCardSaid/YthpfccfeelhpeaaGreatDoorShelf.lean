/-
  Contracts of library functions at this program, in plain words (written by the shelf's tools).
-/
import Derived.Shelf.Strings.SlTrimAscii
import Derived.Shelf.SlSortCmp.WholeK
import Derived.Shelf.SlSortCmp.NoneTotal
import Derived.Shelf.Spec.SlicesGrow
import Derived.Shelf.Strings.Builder1
import Derived.Shelf.Strings.Trim
import Derived.Shelf.Small.Utf8
import Derived.Shelf.Small.Bits
import Derived.Shelf.Small.Strs
import Derived.Shelf.Utf8.RuneCount
import Derived.Shelf.Strconv.Atoi
import Derived.Shelf.Strconv.Itoa0
import Derived.Shelf.Strconv.Itoa1
import Derived.Shelf.LaysM
import Derived.Shelf.Strconv.Itoa2
import Derived.Shelf.Strconv.Itoa3
import Derived.Shelf.Strconv.AtoiErrFast
import Derived.Shelf.Strconv.ParseIntEmpty
import Derived.Shelf.Strconv.AtoiFail
import Derived.Shelf.Strconv.Clone
import Derived.Shelf.Strconv.SyntaxError
import Derived.Shelf.LaysC
import Derived.Shelf.Strconv.ToError
import Derived.Shelf.Strconv.Lower
import Derived.Shelf.Strconv.ParseUint10
import Derived.Shelf.Strconv.ParseUint10Empty
import Derived.Shelf.Strconv.ParseUint10Any
import Derived.Shelf.Strconv.ParseInt10
import Derived.Shelf.Strconv.AtoiLong
import Derived.Shelf.Strconv.AtoiInnerAll
import Derived.Shelf.Strconv.RangeError
import Derived.Shelf.Strconv.ToErrorRange
import Derived.Shelf.Strconv.AtoiAll
import Derived.Shelf.Strconv.ErrVarAll
import Derived.Shelf.Strings.Search1
import Derived.Shelf.Strings.Search2
import Derived.Shelf.Strings.Search3
import Derived.Shelf.Strings.Cut
import Derived.Shelf.Strings.Count
import Derived.Shelf.Strings.Shaped
import Derived.Shelf.Sort.Plain
import Derived.Shelf.Strings.Split
import Derived.Shelf.Strings.SplitShaped
import Derived.Shelf.Unicode.Decode
import Derived.Shelf.Strings.Runes
import Derived.Shelf.Strings.RuneCount
import Derived.Shelf.Strings.AsciiSet
import Derived.Shelf.Strings.Explode
import Derived.Shelf.Unicode.DecodeSlow
import Derived.Shelf.Unicode.DecodeAny
import Derived.Shelf.Unicode.DecodeLast
import Derived.Ground.Names2Prog
import Derived.Shelf.Slices.Clone
import Derived.Shelf.Slices.CompactI
import Derived.Shelf.Slices.SearchI
import Derived.Shelf.Slices.Cells
import Derived.Shelf.Slices.In.SortNone
import Derived.Ground.SlgnProg
import Derived.Shelf.SlicesE.Clone
import Derived.Test.YthpfccfeelhpeaaGreatDoorProg
namespace Go.Proofs
open Go.Shelf
def Tryz.lays160_ren : Go.Shelf.Ren := ⟨fun | 160 => 141 | 232 => 208 | 231 => 207 | 227 => 209 | 234 => 211 | 233 => 210 | 236 => 213 | 235 => 212 | 228 => 274 | 271 => 276 | 151 => 275 | 197 => 179 | 120 => 318 | 152 => 317 | 260 => 247 | 137 => 336 | 119 => 337 | 224 => 177 | 225 => 176 | 217 => 175 | 266 => 245 | n => n, fun | 9 => 9 | 4 => 4 | 3 => 3 | 5 => 5 | 117 => 217 | 116 => 216 | 0 => 0 | 124 => 220 | 21 => 21 | 105 => 194 | 46 => 84 | 119 => 302 | 139 => 305 | 138 => 304 | n => n, fun | 3 => 5 | 4 => 6 | n => n⟩
theorem Tryz.lays160 : Go.Proofs.Lays.n160 Tryz.prog Tryz.lays160_ren := {
  mixed := by kernel_rfl
  f119 := Tryz.func337.trans (congrArg some (by kernel_rfl))
  f120 := Tryz.func318.trans (congrArg some (by kernel_rfl))
  f137 := Tryz.func336.trans (congrArg some (by kernel_rfl))
  f151 := Tryz.func275.trans (congrArg some (by kernel_rfl))
  f152 := Tryz.func317.trans (congrArg some (by kernel_rfl))
  f160 := Tryz.func141.trans (congrArg some (by kernel_rfl))
  f197 := Tryz.func179.trans (congrArg some (by kernel_rfl))
  f217 := Tryz.func175.trans (congrArg some (by kernel_rfl))
  f224 := Tryz.func177.trans (congrArg some (by kernel_rfl))
  f225 := Tryz.func176.trans (congrArg some (by kernel_rfl))
  f227 := Tryz.func209.trans (congrArg some (by kernel_rfl))
  f228 := Tryz.func274.trans (congrArg some (by kernel_rfl))
  f231 := Tryz.func207.trans (congrArg some (by kernel_rfl))
  f232 := Tryz.func208.trans (congrArg some (by kernel_rfl))
  f233 := Tryz.func210.trans (congrArg some (by kernel_rfl))
  f234 := Tryz.func211.trans (congrArg some (by kernel_rfl))
  f235 := Tryz.func212.trans (congrArg some (by kernel_rfl))
  f236 := Tryz.func213.trans (congrArg some (by kernel_rfl))
  f260 := Tryz.func247.trans (congrArg some (by kernel_rfl))
  f266 := Tryz.func245.trans (congrArg some (by kernel_rfl))
  f271 := Tryz.func276.trans (congrArg some (by kernel_rfl))
  t0 := Tryz.underlying0
  a0 := Tryz.isAgg0
  z0 := Tryz.sizeOf0
  v0 := Tryz.zeroValue0
  t3 := Tryz.underlying3
  a3 := Tryz.isAgg3
  z3 := Tryz.sizeOf3
  v3 := Tryz.zeroValue3
  t4 := Tryz.underlying4
  a4 := Tryz.isAgg4
  z4 := Tryz.sizeOf4
  v4 := Tryz.zeroValue4
  t5 := Tryz.underlying5
  a5 := Tryz.isAgg5
  z5 := Tryz.sizeOf5
  v5 := Tryz.zeroValue5
  t9 := Tryz.underlying9
  a9 := Tryz.isAgg9
  z9 := Tryz.sizeOf9
  v9 := Tryz.zeroValue9
  t21 := Tryz.underlying21
  a21 := Tryz.isAgg21
  z21 := Tryz.sizeOf21
  v21 := Tryz.zeroValue21
  t46 := Tryz.underlying84
  a46 := Tryz.isAgg84
  z46 := Tryz.sizeOf84
  v46 := Tryz.zeroValue84
  t105 := Tryz.underlying194
  a105 := Tryz.isAgg194
  z105 := Tryz.sizeOf194
  v105 := Tryz.zeroValue194
  t116 := Tryz.underlying216
  a116 := Tryz.isAgg216
  z116 := Tryz.sizeOf216
  t117 := Tryz.underlying217
  a117 := Tryz.isAgg217
  z117 := Tryz.sizeOf217
  v117 := Tryz.zeroValue217
  t119 := Tryz.underlying302
  a119 := Tryz.isAgg302
  z119 := Tryz.sizeOf302
  t124 := Tryz.underlying220
  a124 := Tryz.isAgg220
  z124 := Tryz.sizeOf220
  v124 := Tryz.zeroValue220
  t138 := Tryz.underlying304
  a138 := Tryz.isAgg304
  z138 := Tryz.sizeOf304
  v138 := Tryz.zeroValue304
  t139 := Tryz.underlying305
  a139 := Tryz.isAgg305
  z139 := Tryz.sizeOf305
  v139 := Tryz.zeroValue305
  g3 := by kernel_rfl
  g4 := by kernel_rfl }
def Tryz.lays106_ren : Go.Shelf.Ren := ⟨fun | 106 => 161 | 213 => 233 | 265 => 295 | n => n, fun | 9 => 9 | 3 => 3 | n => n, fun | n => n⟩
theorem Tryz.lays106 : Go.Proofs.Lays.n106 Tryz.prog Tryz.lays106_ren := {
  mixed := by kernel_rfl
  f106 := Tryz.func161.trans (congrArg some (by kernel_rfl))
  f213 := Tryz.func233.trans (congrArg some (by kernel_rfl))
  f265 := Tryz.func295.trans (congrArg some (by kernel_rfl))
  t3 := Tryz.underlying3
  a3 := Tryz.isAgg3
  z3 := Tryz.sizeOf3
  v3 := Tryz.zeroValue3
  t9 := Tryz.underlying9
  a9 := Tryz.isAgg9
  z9 := Tryz.sizeOf9
  v9 := Tryz.zeroValue9 }
open Go.RowKit in
theorem Tryz.strings_Compare (a b : ByteArray) (w : World) :
    Calls Tryz.prog 161 #[.string a, .string b] w fun e w' => e = .returned (.int .i64 (Lib.compareBytes a.data.toList b.data.toList)) ∧ w' = w := Any.strings_Compare Tryz.lays106 a b w
def Tryz.laysM171_ren : Go.Shelf.Ren := ⟨fun | 171 => 58 | 243 => 111 | 246 => 173 | 283 => 241 | 284 => 242 | 285 => 243 | 286 => 244 | 129 => 107 | 317 => 304 | 318 => 305 | 319 => 306 | 320 => 307 | 337 => 329 | 338 => 330 | n => n, fun | 3 => 3 | 9 => 9 | 2 => 2 | 4 => 4 | 171 => 252 | 0 => 0 | 53 => 134 | 37 => 48 | 5 => 5 | 173 => 254 | 212 => 300 | 51 => 132 | 20 => 20 | 213 => 301 | 46 => 84 | 232 => 332 | 233 => 333 | n => n, fun | 17 => 4 | 18 => 7 | 19 => 8 | n => n⟩
theorem Tryz.laysM171 : Go.Proofs.LaysM.n171 Tryz.prog Tryz.laysM171_ren := {
  mixed := by kernel_rfl
  f129 := Tryz.func107.trans (congrArg some (by kernel_rfl))
  f171 := Tryz.func58.trans (congrArg some (by kernel_rfl))
  f243 := Tryz.func111.trans (congrArg some (by kernel_rfl))
  f246 := Tryz.func173.trans (congrArg some (by kernel_rfl))
  f283 := Tryz.func241.trans (congrArg some (by kernel_rfl))
  f284 := Tryz.func242.trans (congrArg some (by kernel_rfl))
  f285 := Tryz.func243.trans (congrArg some (by kernel_rfl))
  f286 := Tryz.func244.trans (congrArg some (by kernel_rfl))
  f317 := Tryz.func304.trans (congrArg some (by kernel_rfl))
  f318 := Tryz.func305.trans (congrArg some (by kernel_rfl))
  f319 := Tryz.func306.trans (congrArg some (by kernel_rfl))
  f320 := Tryz.func307.trans (congrArg some (by kernel_rfl))
  f337 := Tryz.func329.trans (congrArg some (by kernel_rfl))
  f338 := Tryz.func330.trans (congrArg some (by kernel_rfl))
  t0 := Tryz.underlying0
  a0 := Tryz.isAgg0
  z0 := Tryz.sizeOf0
  v0 := Tryz.zeroValue0
  t2 := Tryz.underlying2
  a2 := Tryz.isAgg2
  z2 := Tryz.sizeOf2
  v2 := Tryz.zeroValue2
  t3 := Tryz.underlying3
  a3 := Tryz.isAgg3
  z3 := Tryz.sizeOf3
  v3 := Tryz.zeroValue3
  t4 := Tryz.underlying4
  a4 := Tryz.isAgg4
  z4 := Tryz.sizeOf4
  v4 := Tryz.zeroValue4
  t5 := Tryz.underlying5
  a5 := Tryz.isAgg5
  z5 := Tryz.sizeOf5
  v5 := Tryz.zeroValue5
  t9 := Tryz.underlying9
  a9 := Tryz.isAgg9
  z9 := Tryz.sizeOf9
  v9 := Tryz.zeroValue9
  t20 := Tryz.underlying20
  a20 := Tryz.isAgg20
  z20 := Tryz.sizeOf20
  v20 := Tryz.zeroValue20
  t37 := Tryz.underlying48
  a37 := Tryz.isAgg48
  z37 := Tryz.sizeOf48
  v37 := Tryz.zeroValue48
  t46 := Tryz.underlying84
  a46 := Tryz.isAgg84
  z46 := Tryz.sizeOf84
  v46 := Tryz.zeroValue84
  t51 := Tryz.underlying132
  a51 := Tryz.isAgg132
  z51 := Tryz.sizeOf132
  v51 := Tryz.zeroValue132
  t53 := Tryz.underlying134
  a53 := Tryz.isAgg134
  z53 := Tryz.sizeOf134
  v53 := Tryz.zeroValue134
  t171 := Tryz.underlying252
  a171 := Tryz.isAgg252
  z171 := Tryz.sizeOf252
  v171 := Tryz.zeroValue252
  t173 := Tryz.underlying254
  a173 := Tryz.isAgg254
  z173 := Tryz.sizeOf254
  v173 := Tryz.zeroValue254
  t212 := Tryz.underlying300
  a212 := Tryz.isAgg300
  z212 := Tryz.sizeOf300
  v212 := Tryz.zeroValue300
  t213 := Tryz.underlying301
  a213 := Tryz.isAgg301
  z213 := Tryz.sizeOf301
  t232 := Tryz.underlying332
  a232 := Tryz.isAgg332
  z232 := Tryz.sizeOf332
  v232 := Tryz.zeroValue332
  t233 := Tryz.underlying333
  a233 := Tryz.isAgg333
  z233 := Tryz.sizeOf333
  v233 := Tryz.zeroValue333
  g17 := by kernel_rfl
  g18 := by kernel_rfl
  g19 := by kernel_rfl
  i0 := by kernel_rfl
  i2 := by kernel_rfl
  i3 := by kernel_rfl
  i4 := by kernel_rfl
  i5 := by kernel_rfl
  i9 := by kernel_rfl
  i20 := by kernel_rfl
  i37 := by kernel_rfl
  i46 := by kernel_rfl
  i51 := by kernel_rfl
  i53 := by kernel_rfl
  i171 := by kernel_rfl
  i173 := by kernel_rfl
  i212 := by kernel_rfl
  i232 := by kernel_rfl
  i233 := by kernel_rfl
  m17 := by kernel_rfl
  m18 := by kernel_rfl
  m19 := by kernel_rfl }
open Go.RowKit Go.Sort Go.Lib in
theorem Tryz.strconv_Itoa (n : Int) (h0 : -9223372036854775808 ≤ n) (h1 : n ≤ 9223372036854775807) (w : World) (htab : Lib.TabIs Tryz.prog w "internal/strconv.uint64pow10" .u64 Lib.pow10Tab) :
    Calls Tryz.prog 58 #[.int .i64 n] w fun e w' => e = .returned (.string ⟨(Lib.itoa n).toArray⟩) ∧ ∃ k os, w' = grow (w.drewN k) os := Any.strconv_Itoa Tryz.laysM171 n h0 h1 w htab
def Tryz.laysC172_ren : Go.Shelf.Ren := ⟨fun | 172 => 71 | 244 => 119 | 245 => 120 | 247 => 183 | 279 => 184 | 280 => 185 | 281 => 186 | 282 => 187 | 287 => 250 | 316 => 251 | 171 => 58 | 205 => 252 | 321 => 308 | 322 => 309 | 243 => 111 | 246 => 173 | 283 => 241 | 284 => 242 | 285 => 243 | 286 => 244 | 129 => 107 | 317 => 304 | 318 => 305 | 319 => 306 | 320 => 307 | 337 => 329 | 338 => 330 | n => n, fun | 9 => 9 | 3 => 3 | 75 => 54 | 76 => 55 | 4 => 4 | 5 => 5 | 167 => 198 | 37 => 48 | 0 => 0 | 85 => 199 | 2 => 2 | 168 => 201 | 53 => 134 | 175 => 258 | 46 => 84 | 210 => 261 | 127 => 94 | 145 => 309 | 143 => 307 | 21 => 21 | 171 => 252 | 173 => 254 | 212 => 300 | 51 => 132 | 20 => 20 | 213 => 301 | 232 => 332 | 233 => 333 | 80 => 58 | n => n, fun | 15 => 2 | 16 => 3 | 17 => 4 | 18 => 7 | 19 => 8 | n => n⟩
theorem Tryz.laysC172 : Go.Proofs.LaysC.n172 Tryz.prog Tryz.laysC172_ren := {
  mixed := by kernel_rfl
  f129 := Tryz.func107.trans (congrArg some (by kernel_rfl))
  f171 := Tryz.func58.trans (congrArg some (by kernel_rfl))
  f172 := Tryz.func71.trans (congrArg some (by kernel_rfl))
  f205 := Tryz.func252.trans (congrArg some (by kernel_rfl))
  f243 := Tryz.func111.trans (congrArg some (by kernel_rfl))
  f244 := Tryz.func119.trans (congrArg some (by kernel_rfl))
  f245 := Tryz.func120.trans (congrArg some (by kernel_rfl))
  f246 := Tryz.func173.trans (congrArg some (by kernel_rfl))
  f247 := Tryz.func183.trans (congrArg some (by kernel_rfl))
  f279 := Tryz.func184.trans (congrArg some (by kernel_rfl))
  f280 := Tryz.func185.trans (congrArg some (by kernel_rfl))
  f281 := Tryz.func186.trans (congrArg some (by kernel_rfl))
  f282 := Tryz.func187.trans (congrArg some (by kernel_rfl))
  f283 := Tryz.func241.trans (congrArg some (by kernel_rfl))
  f284 := Tryz.func242.trans (congrArg some (by kernel_rfl))
  f285 := Tryz.func243.trans (congrArg some (by kernel_rfl))
  f286 := Tryz.func244.trans (congrArg some (by kernel_rfl))
  f287 := Tryz.func250.trans (congrArg some (by kernel_rfl))
  f316 := Tryz.func251.trans (congrArg some (by kernel_rfl))
  f317 := Tryz.func304.trans (congrArg some (by kernel_rfl))
  f318 := Tryz.func305.trans (congrArg some (by kernel_rfl))
  f319 := Tryz.func306.trans (congrArg some (by kernel_rfl))
  f320 := Tryz.func307.trans (congrArg some (by kernel_rfl))
  f321 := Tryz.func308.trans (congrArg some (by kernel_rfl))
  f322 := Tryz.func309.trans (congrArg some (by kernel_rfl))
  f337 := Tryz.func329.trans (congrArg some (by kernel_rfl))
  f338 := Tryz.func330.trans (congrArg some (by kernel_rfl))
  t0 := Tryz.underlying0
  a0 := Tryz.isAgg0
  z0 := Tryz.sizeOf0
  v0 := Tryz.zeroValue0
  t2 := Tryz.underlying2
  a2 := Tryz.isAgg2
  z2 := Tryz.sizeOf2
  v2 := Tryz.zeroValue2
  t3 := Tryz.underlying3
  a3 := Tryz.isAgg3
  z3 := Tryz.sizeOf3
  v3 := Tryz.zeroValue3
  t4 := Tryz.underlying4
  a4 := Tryz.isAgg4
  z4 := Tryz.sizeOf4
  v4 := Tryz.zeroValue4
  t5 := Tryz.underlying5
  a5 := Tryz.isAgg5
  z5 := Tryz.sizeOf5
  v5 := Tryz.zeroValue5
  t9 := Tryz.underlying9
  a9 := Tryz.isAgg9
  z9 := Tryz.sizeOf9
  v9 := Tryz.zeroValue9
  t20 := Tryz.underlying20
  a20 := Tryz.isAgg20
  z20 := Tryz.sizeOf20
  v20 := Tryz.zeroValue20
  t21 := Tryz.underlying21
  a21 := Tryz.isAgg21
  z21 := Tryz.sizeOf21
  v21 := Tryz.zeroValue21
  t37 := Tryz.underlying48
  a37 := Tryz.isAgg48
  z37 := Tryz.sizeOf48
  v37 := Tryz.zeroValue48
  t46 := Tryz.underlying84
  a46 := Tryz.isAgg84
  z46 := Tryz.sizeOf84
  v46 := Tryz.zeroValue84
  t51 := Tryz.underlying132
  a51 := Tryz.isAgg132
  z51 := Tryz.sizeOf132
  v51 := Tryz.zeroValue132
  t53 := Tryz.underlying134
  a53 := Tryz.isAgg134
  z53 := Tryz.sizeOf134
  v53 := Tryz.zeroValue134
  t75 := Tryz.underlying54
  a75 := Tryz.isAgg54
  z75 := Tryz.sizeOf54
  v75 := Tryz.zeroValue54
  t76 := Tryz.underlying55
  a76 := Tryz.isAgg55
  z76 := Tryz.sizeOf55
  v76 := Tryz.zeroValue55
  t85 := Tryz.underlying199
  a85 := Tryz.isAgg199
  z85 := Tryz.sizeOf199
  v85 := Tryz.zeroValue199
  t127 := Tryz.underlying94
  a127 := Tryz.isAgg94
  z127 := Tryz.sizeOf94
  v127 := Tryz.zeroValue94
  t143 := Tryz.underlying307
  a143 := Tryz.isAgg307
  z143 := Tryz.sizeOf307
  v143 := Tryz.zeroValue307
  t145 := Tryz.underlying309
  a145 := Tryz.isAgg309
  z145 := Tryz.sizeOf309
  v145 := Tryz.zeroValue309
  t167 := Tryz.underlying198
  a167 := Tryz.isAgg198
  z167 := Tryz.sizeOf198
  v167 := Tryz.zeroValue198
  t168 := Tryz.underlying201
  a168 := Tryz.isAgg201
  z168 := Tryz.sizeOf201
  v168 := Tryz.zeroValue201
  t171 := Tryz.underlying252
  a171 := Tryz.isAgg252
  z171 := Tryz.sizeOf252
  v171 := Tryz.zeroValue252
  t173 := Tryz.underlying254
  a173 := Tryz.isAgg254
  z173 := Tryz.sizeOf254
  v173 := Tryz.zeroValue254
  t175 := Tryz.underlying258
  a175 := Tryz.isAgg258
  z175 := Tryz.sizeOf258
  v175 := Tryz.zeroValue258
  t210 := Tryz.underlying261
  a210 := Tryz.isAgg261
  z210 := Tryz.sizeOf261
  v210 := Tryz.zeroValue261
  t212 := Tryz.underlying300
  a212 := Tryz.isAgg300
  z212 := Tryz.sizeOf300
  v212 := Tryz.zeroValue300
  t213 := Tryz.underlying301
  a213 := Tryz.isAgg301
  z213 := Tryz.sizeOf301
  t232 := Tryz.underlying332
  a232 := Tryz.isAgg332
  z232 := Tryz.sizeOf332
  v232 := Tryz.zeroValue332
  t233 := Tryz.underlying333
  a233 := Tryz.isAgg333
  z233 := Tryz.sizeOf333
  v233 := Tryz.zeroValue333
  g15 := by kernel_rfl
  g16 := by kernel_rfl
  g17 := by kernel_rfl
  g18 := by kernel_rfl
  g19 := by kernel_rfl
  t80 := Tryz.underlying58
  a80 := Tryz.isAgg58
  z80 := Tryz.sizeOf58
  v80 := Tryz.zeroValue58
  i0 := by kernel_rfl
  i2 := by kernel_rfl
  i3 := by kernel_rfl
  i4 := by kernel_rfl
  i5 := by kernel_rfl
  i9 := by kernel_rfl
  i20 := by kernel_rfl
  i21 := by kernel_rfl
  i37 := by kernel_rfl
  i46 := by kernel_rfl
  i51 := by kernel_rfl
  i53 := by kernel_rfl
  i75 := by kernel_rfl
  i76 := by kernel_rfl
  i80 := by kernel_rfl
  i85 := by kernel_rfl
  i127 := by kernel_rfl
  i143 := by kernel_rfl
  i145 := by kernel_rfl
  i167 := by kernel_rfl
  i168 := by kernel_rfl
  i171 := by kernel_rfl
  i173 := by kernel_rfl
  i175 := by kernel_rfl
  i210 := by kernel_rfl
  i212 := by kernel_rfl
  i232 := by kernel_rfl
  i233 := by kernel_rfl
  m15 := by kernel_rfl
  m16 := by kernel_rfl
  m17 := by kernel_rfl
  m18 := by kernel_rfl
  m19 := by kernel_rfl
  c0 := by kernel_rfl
  c2 := by kernel_rfl
  c3 := by kernel_rfl
  c4 := by kernel_rfl
  c5 := by kernel_rfl
  c9 := by kernel_rfl
  c20 := by kernel_rfl
  c21 := by kernel_rfl
  c37 := by kernel_rfl
  c46 := by kernel_rfl
  c51 := by kernel_rfl
  c53 := by kernel_rfl
  c75 := by kernel_rfl
  c76 := by kernel_rfl
  c80 := by kernel_rfl
  c85 := by kernel_rfl
  c127 := by kernel_rfl
  c143 := by kernel_rfl
  c145 := by kernel_rfl
  c167 := by kernel_rfl
  c168 := by kernel_rfl
  c171 := by kernel_rfl
  c173 := by kernel_rfl
  c175 := by kernel_rfl
  c210 := by kernel_rfl
  c212 := by kernel_rfl
  c213 := by kernel_rfl
  c232 := by kernel_rfl
  c233 := by kernel_rfl }
open Go.RowKit in
theorem Tryz.strconv_Atoi_ok (s : ByteArray) (hmax : s.size ≤ 9223372036854775806) (v : Int) (h : Lib.atoiAll s.data.toList = .ok v) (w : World) :
    Calls Tryz.prog 71 #[.string s] w fun e w' => e = .returned (.tuple #[.int .i64 v, .nilIface]) ∧ (w' = w ∨ ∃ t, w' = Lib.bytesWorld w 5 t) := Any.strconv_Atoi_ok Tryz.laysC172 s hmax v h w
open Go.RowKit in
theorem Tryz.strconv_Atoi_syntax_var (s : ByteArray) (hlim : s.size ≤ 281474976710656) (h : Lib.atoiAll s.data.toList = Lib.NumEnd.syntax) (tp : TypeId) (p : Value) (w : World) (hvar : w.var? Tryz.prog "strconv.ErrSyntax" = some #[.iface tp p]) :
    Calls Tryz.prog 71 #[.string s] w fun e w' => ∃ N, e = .returned (.tuple #[.int .i64 0, .iface 201 (.pointer (some ⟨N, 0, none⟩))]) ∧ w.heap.size ≤ N ∧ w'.heap[N]? = some (.cells #[.string ⟨#[65, 116, 111, 105]⟩, .string s, .iface tp p] 261 (0, 0)) ∧ Below w.heap.size w w' := Any.strconv_Atoi_syntax_var Tryz.laysC172 s hlim h tp p w hvar
open Go.RowKit in
theorem Tryz.strconv_Atoi_range_var (s : ByteArray) (hlim : s.size ≤ 281474976710656) (h : Lib.atoiAll s.data.toList = .range) (tp : TypeId) (p : Value) (w : World) (hvar : w.var? Tryz.prog "strconv.ErrRange" = some #[.iface tp p]) :
    Calls Tryz.prog 71 #[.string s] w fun e w' => ∃ N, e = .returned (.tuple #[.int .i64 (Lib.atoiSat s.data.toList), .iface 201 (.pointer (some ⟨N, 0, none⟩))]) ∧ w.heap.size ≤ N ∧ w'.heap[N]? = some (.cells #[.string ⟨#[65, 116, 111, 105]⟩, .string s, .iface tp p] 261 (0, 0)) ∧ Below w.heap.size w w' := Any.strconv_Atoi_range_var Tryz.laysC172 s hlim h tp p w hvar
def Tryz.lays219_ren : Go.Shelf.Ren := ⟨fun | 219 => 115 | 217 => 175 | 225 => 176 | 224 => 177 | 267 => 178 | 266 => 245 | 314 => 246 | n => n, fun | 9 => 9 | 3 => 3 | 4 => 4 | 5 => 5 | 46 => 84 | 146 => 256 | 51 => 132 | n => n, fun | 1 => 0 | n => n⟩
theorem Tryz.lays219 : Go.Proofs.Lays.n219 Tryz.prog Tryz.lays219_ren := {
  mixed := by kernel_rfl
  f217 := Tryz.func175.trans (congrArg some (by kernel_rfl))
  f219 := Tryz.func115.trans (congrArg some (by kernel_rfl))
  f224 := Tryz.func177.trans (congrArg some (by kernel_rfl))
  f225 := Tryz.func176.trans (congrArg some (by kernel_rfl))
  f266 := Tryz.func245.trans (congrArg some (by kernel_rfl))
  f267 := Tryz.func178.trans (congrArg some (by kernel_rfl))
  f314 := Tryz.func246.trans (congrArg some (by kernel_rfl))
  t3 := Tryz.underlying3
  a3 := Tryz.isAgg3
  z3 := Tryz.sizeOf3
  v3 := Tryz.zeroValue3
  t4 := Tryz.underlying4
  a4 := Tryz.isAgg4
  z4 := Tryz.sizeOf4
  v4 := Tryz.zeroValue4
  t5 := Tryz.underlying5
  a5 := Tryz.isAgg5
  z5 := Tryz.sizeOf5
  v5 := Tryz.zeroValue5
  t9 := Tryz.underlying9
  a9 := Tryz.isAgg9
  z9 := Tryz.sizeOf9
  v9 := Tryz.zeroValue9
  t46 := Tryz.underlying84
  a46 := Tryz.isAgg84
  z46 := Tryz.sizeOf84
  v46 := Tryz.zeroValue84
  t51 := Tryz.underlying132
  a51 := Tryz.isAgg132
  z51 := Tryz.sizeOf132
  v51 := Tryz.zeroValue132
  t146 := Tryz.underlying256
  a146 := Tryz.isAgg256
  z146 := Tryz.sizeOf256
  v146 := Tryz.zeroValue256
  g1 := by kernel_rfl }
open Go.RowKit Go.Lib in
theorem Tryz.stringslite_Index (s sub : ByteArray) (m : Int) (w : World) (hs : s.size < 4294967281) (hm : w.cell? ⟨0, 0, none⟩ = some (.int .i64 m)) :
    Calls Tryz.prog 115 #[.string s, .string sub] w fun e w' => e = .returned (.int .i64 (Lib.index s.data.toList sub.data.toList)) ∧ w' = w := Any.stringslite_Index Tryz.lays219 s sub m w hs hm
def Tryz.lays138_ren : Go.Shelf.Ren := ⟨fun | 138 => 31 | 195 => 64 | 218 => 65 | 143 => 66 | 219 => 115 | 217 => 175 | 225 => 176 | 224 => 177 | 267 => 178 | 266 => 245 | 314 => 246 | n => n, fun | 9 => 9 | 3 => 3 | 4 => 4 | 5 => 5 | 0 => 0 | 46 => 84 | 146 => 256 | 51 => 132 | n => n, fun | 1 => 0 | n => n⟩
theorem Tryz.lays138 : Go.Proofs.Lays.n138 Tryz.prog Tryz.lays138_ren := {
  mixed := by kernel_rfl
  f138 := Tryz.func31.trans (congrArg some (by kernel_rfl))
  f143 := Tryz.func66.trans (congrArg some (by kernel_rfl))
  f195 := Tryz.func64.trans (congrArg some (by kernel_rfl))
  f217 := Tryz.func175.trans (congrArg some (by kernel_rfl))
  f218 := Tryz.func65.trans (congrArg some (by kernel_rfl))
  f219 := Tryz.func115.trans (congrArg some (by kernel_rfl))
  f224 := Tryz.func177.trans (congrArg some (by kernel_rfl))
  f225 := Tryz.func176.trans (congrArg some (by kernel_rfl))
  f266 := Tryz.func245.trans (congrArg some (by kernel_rfl))
  f267 := Tryz.func178.trans (congrArg some (by kernel_rfl))
  f314 := Tryz.func246.trans (congrArg some (by kernel_rfl))
  t0 := Tryz.underlying0
  a0 := Tryz.isAgg0
  z0 := Tryz.sizeOf0
  v0 := Tryz.zeroValue0
  t3 := Tryz.underlying3
  a3 := Tryz.isAgg3
  z3 := Tryz.sizeOf3
  v3 := Tryz.zeroValue3
  t4 := Tryz.underlying4
  a4 := Tryz.isAgg4
  z4 := Tryz.sizeOf4
  v4 := Tryz.zeroValue4
  t5 := Tryz.underlying5
  a5 := Tryz.isAgg5
  z5 := Tryz.sizeOf5
  v5 := Tryz.zeroValue5
  t9 := Tryz.underlying9
  a9 := Tryz.isAgg9
  z9 := Tryz.sizeOf9
  v9 := Tryz.zeroValue9
  t46 := Tryz.underlying84
  a46 := Tryz.isAgg84
  z46 := Tryz.sizeOf84
  v46 := Tryz.zeroValue84
  t51 := Tryz.underlying132
  a51 := Tryz.isAgg132
  z51 := Tryz.sizeOf132
  v51 := Tryz.zeroValue132
  t146 := Tryz.underlying256
  a146 := Tryz.isAgg256
  z146 := Tryz.sizeOf256
  v146 := Tryz.zeroValue256
  g1 := by kernel_rfl }
open Go.RowKit Go.Lib in
theorem Tryz.strings_Count_one (s : ByteArray) (c : UInt8) (w : World) :
    Calls Tryz.prog 31 #[.string s, .string ⟨#[c]⟩] w fun e w' => e = .returned (.int .i64 (Lib.countByte s.data.toList c)) ∧ w' = w := Any.strings_Count_one Tryz.lays138 s c w
def Tryz.lays189_ren : Go.Shelf.Ren := ⟨fun | 189 => 22 | 125 => 51 | 257 => 50 | 128 => 106 | 129 => 107 | 294 => 97 | 295 => 98 | 296 => 99 | 297 => 100 | 298 => 101 | 299 => 102 | 216 => 103 | 300 => 104 | 301 => 105 | 328 => 165 | 329 => 166 | 330 => 167 | 331 => 168 | 332 => 169 | 215 => 170 | 343 => 239 | n => n, fun | 28 => 27 | 3 => 3 | 46 => 84 | 0 => 0 | 51 => 132 | 53 => 134 | 4 => 4 | 183 => 125 | 182 => 124 | 131 => 101 | 5 => 5 | 9 => 9 | 218 => 184 | 222 => 188 | 228 => 249 | 229 => 250 | n => n, fun | n => n⟩
theorem Tryz.lays189 : Go.Proofs.Lays.n189 Tryz.prog Tryz.lays189_ren := {
  mixed := by kernel_rfl
  f125 := Tryz.func51.trans (congrArg some (by kernel_rfl))
  f128 := Tryz.func106.trans (congrArg some (by kernel_rfl))
  f129 := Tryz.func107.trans (congrArg some (by kernel_rfl))
  f189 := Tryz.func22.trans (congrArg some (by kernel_rfl))
  f215 := Tryz.func170.trans (congrArg some (by kernel_rfl))
  f216 := Tryz.func103.trans (congrArg some (by kernel_rfl))
  f257 := Tryz.func50.trans (congrArg some (by kernel_rfl))
  f294 := Tryz.func97.trans (congrArg some (by kernel_rfl))
  f295 := Tryz.func98.trans (congrArg some (by kernel_rfl))
  f296 := Tryz.func99.trans (congrArg some (by kernel_rfl))
  f297 := Tryz.func100.trans (congrArg some (by kernel_rfl))
  f298 := Tryz.func101.trans (congrArg some (by kernel_rfl))
  f299 := Tryz.func102.trans (congrArg some (by kernel_rfl))
  f300 := Tryz.func104.trans (congrArg some (by kernel_rfl))
  f301 := Tryz.func105.trans (congrArg some (by kernel_rfl))
  f328 := Tryz.func165.trans (congrArg some (by kernel_rfl))
  f329 := Tryz.func166.trans (congrArg some (by kernel_rfl))
  f330 := Tryz.func167.trans (congrArg some (by kernel_rfl))
  f331 := Tryz.func168.trans (congrArg some (by kernel_rfl))
  f332 := Tryz.func169.trans (congrArg some (by kernel_rfl))
  f343 := Tryz.func239.trans (congrArg some (by kernel_rfl))
  t0 := Tryz.underlying0
  a0 := Tryz.isAgg0
  z0 := Tryz.sizeOf0
  v0 := Tryz.zeroValue0
  t3 := Tryz.underlying3
  a3 := Tryz.isAgg3
  z3 := Tryz.sizeOf3
  v3 := Tryz.zeroValue3
  t4 := Tryz.underlying4
  a4 := Tryz.isAgg4
  z4 := Tryz.sizeOf4
  v4 := Tryz.zeroValue4
  t5 := Tryz.underlying5
  a5 := Tryz.isAgg5
  z5 := Tryz.sizeOf5
  v5 := Tryz.zeroValue5
  t9 := Tryz.underlying9
  a9 := Tryz.isAgg9
  z9 := Tryz.sizeOf9
  v9 := Tryz.zeroValue9
  t28 := Tryz.underlying27
  a28 := Tryz.isAgg27
  z28 := Tryz.sizeOf27
  v28 := Tryz.zeroValue27
  t46 := Tryz.underlying84
  a46 := Tryz.isAgg84
  z46 := Tryz.sizeOf84
  v46 := Tryz.zeroValue84
  t51 := Tryz.underlying132
  a51 := Tryz.isAgg132
  z51 := Tryz.sizeOf132
  v51 := Tryz.zeroValue132
  t53 := Tryz.underlying134
  a53 := Tryz.isAgg134
  z53 := Tryz.sizeOf134
  v53 := Tryz.zeroValue134
  t131 := Tryz.underlying101
  a131 := Tryz.isAgg101
  z131 := Tryz.sizeOf101
  v131 := Tryz.zeroValue101
  t182 := Tryz.underlying124
  a182 := Tryz.isAgg124
  z182 := Tryz.sizeOf124
  v182 := Tryz.zeroValue124
  t183 := Tryz.underlying125
  a183 := Tryz.isAgg125
  z183 := Tryz.sizeOf125
  v183 := Tryz.zeroValue125
  t218 := Tryz.underlying184
  a218 := Tryz.isAgg184
  z218 := Tryz.sizeOf184
  v218 := Tryz.zeroValue184
  t222 := Tryz.underlying188
  a222 := Tryz.isAgg188
  z222 := Tryz.sizeOf188
  v222 := Tryz.zeroValue188
  t228 := Tryz.underlying249
  a228 := Tryz.isAgg249
  z228 := Tryz.sizeOf249
  v228 := Tryz.zeroValue249
  t229 := Tryz.underlying250
  a229 := Tryz.isAgg250
  z229 := Tryz.sizeOf250
  v229 := Tryz.zeroValue250 }
open Go.Sort Go.RowKit in
theorem Tryz.slices_Sort_int (blk off cap : Nat) (zs : List Int) (w : World) (hH : Holds (Value.int .i64) w blk off zs.toArray) (hblk : blk < w.heap.size) (hsz : zs.length < 4611686018427387904) :
    Calls Tryz.prog 22 #[.slice (some ⟨blk, off, none⟩) zs.length cap] w fun e w' =>
      e = .returned (.tuple #[]) ∧ ∃ n os, w' = grow (putRow (Value.int .i64) (Sort.ahead w n) blk off (zs.mergeSort fun x y => decide (x ≤ y)).toArray) os := Any.slices_Sort_int Tryz.lays189 blk off cap zs w hH hblk hsz
open Go.RowKit Go.Sort in
theorem Tryz.slices_Sort_int_none (p : Option Addr) (cap : Nat) (w : World) :
    Calls Tryz.prog 22 #[.slice p 0 cap] w fun e w' => e = .returned (.tuple #[]) ∧ w' = w := Any.slices_Sort_int_none Tryz.lays189 p cap w
def Tryz.laysSortFunc_ren : Go.Shelf.Ren := ⟨fun | 6 => 133 | 15 => 51 | 14 => 197 | 28 => 106 | 29 => 107 | 20 => 255 | 21 => 256 | 22 => 257 | 23 => 258 | 24 => 259 | 25 => 260 | 26 => 261 | 27 => 262 | 46 => 310 | 47 => 166 | 48 => 167 | 49 => 311 | 50 => 312 | 57 => 331 | n => n, fun | 22 => 36 | 24 => 38 | 25 => 100 | 3 => 3 | 39 => 84 | 0 => 0 | 53 => 132 | 55 => 134 | 4 => 4 | 46 => 125 | 45 => 124 | 50 => 101 | 5 => 5 | 9 => 9 | 66 => 184 | 70 => 188 | 76 => 249 | 77 => 250 | n => n, fun | n => n⟩
theorem Tryz.laysSortFunc : Go.Proofs.SlLaysF0.n6 Tryz.prog Tryz.laysSortFunc_ren := {
  mixed := by kernel_rfl
  f6 := ⟨Tryz.f133.name, by decide, Tryz.func133.trans (congrArg some (by kernel_rfl))⟩
  f14 := ⟨Tryz.f197.name, by decide, Tryz.func197.trans (congrArg some (by kernel_rfl))⟩
  f15 := Tryz.func51.trans (congrArg some (by kernel_rfl))
  f20 := ⟨Tryz.f255.name, by decide, Tryz.func255.trans (congrArg some (by kernel_rfl))⟩
  f21 := ⟨Tryz.f256.name, by decide, Tryz.func256.trans (congrArg some (by kernel_rfl))⟩
  f22 := ⟨Tryz.f257.name, by decide, Tryz.func257.trans (congrArg some (by kernel_rfl))⟩
  f23 := ⟨Tryz.f258.name, by decide, Tryz.func258.trans (congrArg some (by kernel_rfl))⟩
  f24 := ⟨Tryz.f259.name, by decide, Tryz.func259.trans (congrArg some (by kernel_rfl))⟩
  f25 := ⟨Tryz.f260.name, by decide, Tryz.func260.trans (congrArg some (by kernel_rfl))⟩
  f26 := ⟨Tryz.f261.name, by decide, Tryz.func261.trans (congrArg some (by kernel_rfl))⟩
  f27 := ⟨Tryz.f262.name, by decide, Tryz.func262.trans (congrArg some (by kernel_rfl))⟩
  f28 := Tryz.func106.trans (congrArg some (by kernel_rfl))
  f29 := Tryz.func107.trans (congrArg some (by kernel_rfl))
  f46 := ⟨Tryz.f310.name, by decide, Tryz.func310.trans (congrArg some (by kernel_rfl))⟩
  f47 := Tryz.func166.trans (congrArg some (by kernel_rfl))
  f48 := Tryz.func167.trans (congrArg some (by kernel_rfl))
  f49 := ⟨Tryz.f311.name, by decide, Tryz.func311.trans (congrArg some (by kernel_rfl))⟩
  f50 := ⟨Tryz.f312.name, by decide, Tryz.func312.trans (congrArg some (by kernel_rfl))⟩
  f57 := ⟨Tryz.f331.name, by decide, Tryz.func331.trans (congrArg some (by kernel_rfl))⟩
  t0 := Tryz.underlying0
  a0 := Tryz.isAgg0
  z0 := Tryz.sizeOf0
  v0 := Tryz.zeroValue0
  t3 := Tryz.underlying3
  a3 := Tryz.isAgg3
  z3 := Tryz.sizeOf3
  v3 := Tryz.zeroValue3
  t4 := Tryz.underlying4
  a4 := Tryz.isAgg4
  z4 := Tryz.sizeOf4
  v4 := Tryz.zeroValue4
  t5 := Tryz.underlying5
  a5 := Tryz.isAgg5
  z5 := Tryz.sizeOf5
  v5 := Tryz.zeroValue5
  t9 := Tryz.underlying9
  a9 := Tryz.isAgg9
  z9 := Tryz.sizeOf9
  v9 := Tryz.zeroValue9
  t22 := Tryz.underlying36
  a22 := Tryz.isAgg36
  z22 := Tryz.sizeOf36
  v22 := Tryz.zeroValue36
  t25 := Tryz.underlying100
  a25 := Tryz.isAgg100
  z25 := Tryz.sizeOf100
  v25 := Tryz.zeroValue100
  t39 := Tryz.underlying84
  a39 := Tryz.isAgg84
  z39 := Tryz.sizeOf84
  v39 := Tryz.zeroValue84
  t45 := Tryz.underlying124
  a45 := Tryz.isAgg124
  z45 := Tryz.sizeOf124
  v45 := Tryz.zeroValue124
  t46 := Tryz.underlying125
  a46 := Tryz.isAgg125
  z46 := Tryz.sizeOf125
  v46 := Tryz.zeroValue125
  t50 := Tryz.underlying101
  a50 := Tryz.isAgg101
  z50 := Tryz.sizeOf101
  v50 := Tryz.zeroValue101
  t53 := Tryz.underlying132
  a53 := Tryz.isAgg132
  z53 := Tryz.sizeOf132
  v53 := Tryz.zeroValue132
  t55 := Tryz.underlying134
  a55 := Tryz.isAgg134
  z55 := Tryz.sizeOf134
  v55 := Tryz.zeroValue134
  t66 := Tryz.underlying184
  a66 := Tryz.isAgg184
  z66 := Tryz.sizeOf184
  v66 := Tryz.zeroValue184
  t70 := Tryz.underlying188
  a70 := Tryz.isAgg188
  z70 := Tryz.sizeOf188
  v70 := Tryz.zeroValue188
  t76 := Tryz.underlying249
  a76 := Tryz.isAgg249
  z76 := Tryz.sizeOf249
  v76 := Tryz.zeroValue249
  t77 := Tryz.underlying250
  a77 := Tryz.isAgg250
  z77 := Tryz.sizeOf250
  v77 := Tryz.zeroValue250 }
def Tryz.laysGrow_ren : Go.Shelf.Ren := ⟨fun | 4 => 191 | n => n, fun | 22 => 36 | 25 => 38 | 3 => 3 | 4 => 4 | 9 => 9 | 20 => 20 | 0 => 0 | n => n, fun | n => n⟩
theorem Tryz.laysGrow : Go.Proofs.Lays8.n4 Tryz.prog Tryz.laysGrow_ren := {
  mixed := by kernel_rfl
  f4 := ⟨Tryz.f191.name, by decide, Tryz.func191.trans (congrArg some (by kernel_rfl))⟩
  t0 := Tryz.underlying0
  a0 := Tryz.isAgg0
  z0 := Tryz.sizeOf0
  v0 := Tryz.zeroValue0
  t3 := Tryz.underlying3
  a3 := Tryz.isAgg3
  z3 := Tryz.sizeOf3
  v3 := Tryz.zeroValue3
  t4 := Tryz.underlying4
  a4 := Tryz.isAgg4
  z4 := Tryz.sizeOf4
  v4 := Tryz.zeroValue4
  t9 := Tryz.underlying9
  a9 := Tryz.isAgg9
  z9 := Tryz.sizeOf9
  v9 := Tryz.zeroValue9
  t20 := Tryz.underlying20
  a20 := Tryz.isAgg20
  z20 := Tryz.sizeOf20
  v20 := Tryz.zeroValue20
  t22 := Tryz.underlying36
  a22 := Tryz.isAgg36
  z22 := Tryz.sizeOf36
  v22 := Tryz.zeroValue36 }
end Go.Proofs
