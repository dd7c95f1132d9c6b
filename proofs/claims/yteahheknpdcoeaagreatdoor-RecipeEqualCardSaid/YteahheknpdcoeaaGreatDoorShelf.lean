/-
  Contracts of library functions at this program, in plain words (written by the shelf's tools).
-/
import Derived.Shelf.Strings.SlTrimAscii
import Derived.Shelf.SlSortCmp.WholeK
import Derived.Shelf.SlSortCmp.NoneTotal
import Derived.Shelf.Spec.SlicesGrow
import Derived.Shelf.Strings.Trim
import Derived.Shelf.Small.Utf8
import Derived.Shelf.Small.Bits
import Derived.Shelf.Small.Strs
import Derived.Shelf.Strconv.Itoa0
import Derived.Shelf.Strconv.Itoa1
import Derived.Shelf.LaysM
import Derived.Shelf.Strconv.Itoa2
import Derived.Shelf.Strconv.Itoa3
import Derived.Shelf.Strings.Search1
import Derived.Shelf.Strings.Runes
import Derived.Shelf.Strings.AsciiSet
import Derived.Shelf.Unicode.DecodeSlow
import Derived.Test.YteahheknpdcoeaaGreatDoorProg
namespace Go.Proofs
open Go.Shelf
def Tryz.lays160_ren : Go.Shelf.Ren := ⟨fun | 160 => 154 | 232 => 226 | 231 => 225 | 227 => 227 | 234 => 229 | 233 => 228 | 236 => 231 | 235 => 230 | 228 => 281 | 271 => 284 | 151 => 283 | 197 => 282 | 120 => 306 | 152 => 305 | 260 => 304 | 137 => 326 | 119 => 327 | 224 => 328 | 225 => 329 | 217 => 341 | 266 => 345 | n => n, fun | 9 => 9 | 4 => 4 | 3 => 3 | 5 => 5 | 117 => 218 | 116 => 217 | 0 => 0 | 124 => 221 | 21 => 21 | 105 => 249 | 46 => 152 | 119 => 289 | 139 => 292 | 138 => 291 | n => n, fun | 3 => 2 | 4 => 3 | n => n⟩
theorem Tryz.lays160 : Go.Proofs.Lays.n160 Tryz.prog Tryz.lays160_ren := {
  mixed := by kernel_rfl
  f119 := Tryz.func327.trans (congrArg some (by kernel_rfl))
  f120 := Tryz.func306.trans (congrArg some (by kernel_rfl))
  f137 := Tryz.func326.trans (congrArg some (by kernel_rfl))
  f151 := Tryz.func283.trans (congrArg some (by kernel_rfl))
  f152 := Tryz.func305.trans (congrArg some (by kernel_rfl))
  f160 := Tryz.func154.trans (congrArg some (by kernel_rfl))
  f197 := Tryz.func282.trans (congrArg some (by kernel_rfl))
  f217 := Tryz.func341.trans (congrArg some (by kernel_rfl))
  f224 := Tryz.func328.trans (congrArg some (by kernel_rfl))
  f225 := Tryz.func329.trans (congrArg some (by kernel_rfl))
  f227 := Tryz.func227.trans (congrArg some (by kernel_rfl))
  f228 := Tryz.func281.trans (congrArg some (by kernel_rfl))
  f231 := Tryz.func225.trans (congrArg some (by kernel_rfl))
  f232 := Tryz.func226.trans (congrArg some (by kernel_rfl))
  f233 := Tryz.func228.trans (congrArg some (by kernel_rfl))
  f234 := Tryz.func229.trans (congrArg some (by kernel_rfl))
  f235 := Tryz.func230.trans (congrArg some (by kernel_rfl))
  f236 := Tryz.func231.trans (congrArg some (by kernel_rfl))
  f260 := Tryz.func304.trans (congrArg some (by kernel_rfl))
  f266 := Tryz.func345.trans (congrArg some (by kernel_rfl))
  f271 := Tryz.func284.trans (congrArg some (by kernel_rfl))
  t0 := Tryz.underlying0
  a0 := Tryz.isAgg0
  z0 := Tryz.sizeOf0
  v0 := Tryz.zeroValue0
  t3 := Tryz.underlying3
  a3 := Tryz.isAgg3
  z3 := Tryz.sizeOf3
  v3 := Tryz.zeroValue3
  t4 := Tryz.underlying4
  a4 := Tryz.isAgg4
  z4 := Tryz.sizeOf4
  v4 := Tryz.zeroValue4
  t5 := Tryz.underlying5
  a5 := Tryz.isAgg5
  z5 := Tryz.sizeOf5
  v5 := Tryz.zeroValue5
  t9 := Tryz.underlying9
  a9 := Tryz.isAgg9
  z9 := Tryz.sizeOf9
  v9 := Tryz.zeroValue9
  t21 := Tryz.underlying21
  a21 := Tryz.isAgg21
  z21 := Tryz.sizeOf21
  v21 := Tryz.zeroValue21
  t46 := Tryz.underlying152
  a46 := Tryz.isAgg152
  z46 := Tryz.sizeOf152
  v46 := Tryz.zeroValue152
  t105 := Tryz.underlying249
  a105 := Tryz.isAgg249
  z105 := Tryz.sizeOf249
  v105 := Tryz.zeroValue249
  t116 := Tryz.underlying217
  a116 := Tryz.isAgg217
  z116 := Tryz.sizeOf217
  t117 := Tryz.underlying218
  a117 := Tryz.isAgg218
  z117 := Tryz.sizeOf218
  v117 := Tryz.zeroValue218
  t119 := Tryz.underlying289
  a119 := Tryz.isAgg289
  z119 := Tryz.sizeOf289
  t124 := Tryz.underlying221
  a124 := Tryz.isAgg221
  z124 := Tryz.sizeOf221
  v124 := Tryz.zeroValue221
  t138 := Tryz.underlying291
  a138 := Tryz.isAgg291
  z138 := Tryz.sizeOf291
  v138 := Tryz.zeroValue291
  t139 := Tryz.underlying292
  a139 := Tryz.isAgg292
  z139 := Tryz.sizeOf292
  v139 := Tryz.zeroValue292
  g3 := by kernel_rfl
  g4 := by kernel_rfl }
def Tryz.lays106_ren : Go.Shelf.Ren := ⟨fun | 106 => 96 | 213 => 155 | 265 => 232 | n => n, fun | 9 => 9 | 3 => 3 | n => n, fun | n => n⟩
theorem Tryz.lays106 : Go.Proofs.Lays.n106 Tryz.prog Tryz.lays106_ren := {
  mixed := by kernel_rfl
  f106 := Tryz.func96.trans (congrArg some (by kernel_rfl))
  f213 := Tryz.func155.trans (congrArg some (by kernel_rfl))
  f265 := Tryz.func232.trans (congrArg some (by kernel_rfl))
  t3 := Tryz.underlying3
  a3 := Tryz.isAgg3
  z3 := Tryz.sizeOf3
  v3 := Tryz.zeroValue3
  t9 := Tryz.underlying9
  a9 := Tryz.isAgg9
  z9 := Tryz.sizeOf9
  v9 := Tryz.zeroValue9 }
open Go.RowKit in
theorem Tryz.strings_Compare (a b : ByteArray) (w : World) :
    Calls Tryz.prog 96 #[.string a, .string b] w fun e w' => e = .returned (.int .i64 (Lib.compareBytes a.data.toList b.data.toList)) ∧ w' = w := Any.strings_Compare Tryz.lays106 a b w
def Tryz.laysM171_ren : Go.Shelf.Ren := ⟨fun | 171 => 204 | 243 => 270 | 246 => 301 | 283 => 322 | 284 => 323 | 285 => 324 | 286 => 325 | 129 => 221 | 317 => 337 | 318 => 338 | 319 => 339 | 320 => 340 | 337 => 343 | 338 => 344 | n => n, fun | 3 => 3 | 9 => 9 | 2 => 2 | 4 => 4 | 171 => 285 | 0 => 0 | 53 => 211 | 37 => 44 | 5 => 5 | 173 => 287 | 212 => 302 | 51 => 209 | 20 => 20 | 213 => 303 | 46 => 152 | 232 => 305 | 233 => 306 | n => n, fun | 17 => 4 | 18 => 5 | 19 => 6 | n => n⟩
theorem Tryz.laysM171 : Go.Proofs.LaysM.n171 Tryz.prog Tryz.laysM171_ren := {
  mixed := by kernel_rfl
  f129 := Tryz.func221.trans (congrArg some (by kernel_rfl))
  f171 := Tryz.func204.trans (congrArg some (by kernel_rfl))
  f243 := Tryz.func270.trans (congrArg some (by kernel_rfl))
  f246 := Tryz.func301.trans (congrArg some (by kernel_rfl))
  f283 := Tryz.func322.trans (congrArg some (by kernel_rfl))
  f284 := Tryz.func323.trans (congrArg some (by kernel_rfl))
  f285 := Tryz.func324.trans (congrArg some (by kernel_rfl))
  f286 := Tryz.func325.trans (congrArg some (by kernel_rfl))
  f317 := Tryz.func337.trans (congrArg some (by kernel_rfl))
  f318 := Tryz.func338.trans (congrArg some (by kernel_rfl))
  f319 := Tryz.func339.trans (congrArg some (by kernel_rfl))
  f320 := Tryz.func340.trans (congrArg some (by kernel_rfl))
  f337 := Tryz.func343.trans (congrArg some (by kernel_rfl))
  f338 := Tryz.func344.trans (congrArg some (by kernel_rfl))
  t0 := Tryz.underlying0
  a0 := Tryz.isAgg0
  z0 := Tryz.sizeOf0
  v0 := Tryz.zeroValue0
  t2 := Tryz.underlying2
  a2 := Tryz.isAgg2
  z2 := Tryz.sizeOf2
  v2 := Tryz.zeroValue2
  t3 := Tryz.underlying3
  a3 := Tryz.isAgg3
  z3 := Tryz.sizeOf3
  v3 := Tryz.zeroValue3
  t4 := Tryz.underlying4
  a4 := Tryz.isAgg4
  z4 := Tryz.sizeOf4
  v4 := Tryz.zeroValue4
  t5 := Tryz.underlying5
  a5 := Tryz.isAgg5
  z5 := Tryz.sizeOf5
  v5 := Tryz.zeroValue5
  t9 := Tryz.underlying9
  a9 := Tryz.isAgg9
  z9 := Tryz.sizeOf9
  v9 := Tryz.zeroValue9
  t20 := Tryz.underlying20
  a20 := Tryz.isAgg20
  z20 := Tryz.sizeOf20
  v20 := Tryz.zeroValue20
  t37 := Tryz.underlying44
  a37 := Tryz.isAgg44
  z37 := Tryz.sizeOf44
  v37 := Tryz.zeroValue44
  t46 := Tryz.underlying152
  a46 := Tryz.isAgg152
  z46 := Tryz.sizeOf152
  v46 := Tryz.zeroValue152
  t51 := Tryz.underlying209
  a51 := Tryz.isAgg209
  z51 := Tryz.sizeOf209
  v51 := Tryz.zeroValue209
  t53 := Tryz.underlying211
  a53 := Tryz.isAgg211
  z53 := Tryz.sizeOf211
  v53 := Tryz.zeroValue211
  t171 := Tryz.underlying285
  a171 := Tryz.isAgg285
  z171 := Tryz.sizeOf285
  v171 := Tryz.zeroValue285
  t173 := Tryz.underlying287
  a173 := Tryz.isAgg287
  z173 := Tryz.sizeOf287
  v173 := Tryz.zeroValue287
  t212 := Tryz.underlying302
  a212 := Tryz.isAgg302
  z212 := Tryz.sizeOf302
  v212 := Tryz.zeroValue302
  t213 := Tryz.underlying303
  a213 := Tryz.isAgg303
  z213 := Tryz.sizeOf303
  t232 := Tryz.underlying305
  a232 := Tryz.isAgg305
  z232 := Tryz.sizeOf305
  v232 := Tryz.zeroValue305
  t233 := Tryz.underlying306
  a233 := Tryz.isAgg306
  z233 := Tryz.sizeOf306
  v233 := Tryz.zeroValue306
  g17 := by kernel_rfl
  g18 := by kernel_rfl
  g19 := by kernel_rfl
  i0 := by kernel_rfl
  i2 := by kernel_rfl
  i3 := by kernel_rfl
  i4 := by kernel_rfl
  i5 := by kernel_rfl
  i9 := by kernel_rfl
  i20 := by kernel_rfl
  i37 := by kernel_rfl
  i46 := by kernel_rfl
  i51 := by kernel_rfl
  i53 := by kernel_rfl
  i171 := by kernel_rfl
  i173 := by kernel_rfl
  i212 := by kernel_rfl
  i232 := by kernel_rfl
  i233 := by kernel_rfl
  m17 := by kernel_rfl
  m18 := by kernel_rfl
  m19 := by kernel_rfl }
open Go.RowKit Go.Sort Go.Lib in
theorem Tryz.strconv_Itoa (n : Int) (h0 : -9223372036854775808 ≤ n) (h1 : n ≤ 9223372036854775807) (w : World) (htab : Lib.TabIs Tryz.prog w "internal/strconv.uint64pow10" .u64 Lib.pow10Tab) :
    Calls Tryz.prog 204 #[.int .i64 n] w fun e w' => e = .returned (.string ⟨(Lib.itoa n).toArray⟩) ∧ ∃ k os, w' = grow (w.drewN k) os := Any.strconv_Itoa Tryz.laysM171 n h0 h1 w htab
def Tryz.laysSortFunc_ren : Go.Shelf.Ren := ⟨fun | 6 => 88 | 15 => 150 | 14 => 149 | 28 => 220 | 29 => 221 | 20 => 212 | 21 => 213 | 22 => 214 | 23 => 215 | 24 => 216 | 25 => 217 | 26 => 218 | 27 => 219 | 46 => 276 | 47 => 277 | 48 => 278 | 49 => 279 | 50 => 280 | 57 => 303 | n => n, fun | 22 => 22 | 24 => 33 | 25 => 70 | 3 => 3 | 39 => 152 | 0 => 0 | 53 => 209 | 55 => 211 | 4 => 4 | 46 => 202 | 45 => 201 | 50 => 206 | 5 => 5 | 9 => 9 | 66 => 244 | 70 => 102 | 76 => 267 | 77 => 268 | n => n, fun | n => n⟩
theorem Tryz.laysSortFunc : Go.Proofs.SlLaysF0.n6 Tryz.prog Tryz.laysSortFunc_ren := {
  mixed := by kernel_rfl
  f6 := ⟨Tryz.f88.name, by decide, Tryz.func88.trans (congrArg some (by kernel_rfl))⟩
  f14 := ⟨Tryz.f149.name, by decide, Tryz.func149.trans (congrArg some (by kernel_rfl))⟩
  f15 := Tryz.func150.trans (congrArg some (by kernel_rfl))
  f20 := ⟨Tryz.f212.name, by decide, Tryz.func212.trans (congrArg some (by kernel_rfl))⟩
  f21 := ⟨Tryz.f213.name, by decide, Tryz.func213.trans (congrArg some (by kernel_rfl))⟩
  f22 := ⟨Tryz.f214.name, by decide, Tryz.func214.trans (congrArg some (by kernel_rfl))⟩
  f23 := ⟨Tryz.f215.name, by decide, Tryz.func215.trans (congrArg some (by kernel_rfl))⟩
  f24 := ⟨Tryz.f216.name, by decide, Tryz.func216.trans (congrArg some (by kernel_rfl))⟩
  f25 := ⟨Tryz.f217.name, by decide, Tryz.func217.trans (congrArg some (by kernel_rfl))⟩
  f26 := ⟨Tryz.f218.name, by decide, Tryz.func218.trans (congrArg some (by kernel_rfl))⟩
  f27 := ⟨Tryz.f219.name, by decide, Tryz.func219.trans (congrArg some (by kernel_rfl))⟩
  f28 := Tryz.func220.trans (congrArg some (by kernel_rfl))
  f29 := Tryz.func221.trans (congrArg some (by kernel_rfl))
  f46 := ⟨Tryz.f276.name, by decide, Tryz.func276.trans (congrArg some (by kernel_rfl))⟩
  f47 := Tryz.func277.trans (congrArg some (by kernel_rfl))
  f48 := Tryz.func278.trans (congrArg some (by kernel_rfl))
  f49 := ⟨Tryz.f279.name, by decide, Tryz.func279.trans (congrArg some (by kernel_rfl))⟩
  f50 := ⟨Tryz.f280.name, by decide, Tryz.func280.trans (congrArg some (by kernel_rfl))⟩
  f57 := ⟨Tryz.f303.name, by decide, Tryz.func303.trans (congrArg some (by kernel_rfl))⟩
  t0 := Tryz.underlying0
  a0 := Tryz.isAgg0
  z0 := Tryz.sizeOf0
  v0 := Tryz.zeroValue0
  t3 := Tryz.underlying3
  a3 := Tryz.isAgg3
  z3 := Tryz.sizeOf3
  v3 := Tryz.zeroValue3
  t4 := Tryz.underlying4
  a4 := Tryz.isAgg4
  z4 := Tryz.sizeOf4
  v4 := Tryz.zeroValue4
  t5 := Tryz.underlying5
  a5 := Tryz.isAgg5
  z5 := Tryz.sizeOf5
  v5 := Tryz.zeroValue5
  t9 := Tryz.underlying9
  a9 := Tryz.isAgg9
  z9 := Tryz.sizeOf9
  v9 := Tryz.zeroValue9
  t22 := Tryz.underlying22
  a22 := Tryz.isAgg22
  z22 := Tryz.sizeOf22
  v22 := Tryz.zeroValue22
  t25 := Tryz.underlying70
  a25 := Tryz.isAgg70
  z25 := Tryz.sizeOf70
  v25 := Tryz.zeroValue70
  t39 := Tryz.underlying152
  a39 := Tryz.isAgg152
  z39 := Tryz.sizeOf152
  v39 := Tryz.zeroValue152
  t45 := Tryz.underlying201
  a45 := Tryz.isAgg201
  z45 := Tryz.sizeOf201
  v45 := Tryz.zeroValue201
  t46 := Tryz.underlying202
  a46 := Tryz.isAgg202
  z46 := Tryz.sizeOf202
  v46 := Tryz.zeroValue202
  t50 := Tryz.underlying206
  a50 := Tryz.isAgg206
  z50 := Tryz.sizeOf206
  v50 := Tryz.zeroValue206
  t53 := Tryz.underlying209
  a53 := Tryz.isAgg209
  z53 := Tryz.sizeOf209
  v53 := Tryz.zeroValue209
  t55 := Tryz.underlying211
  a55 := Tryz.isAgg211
  z55 := Tryz.sizeOf211
  v55 := Tryz.zeroValue211
  t66 := Tryz.underlying244
  a66 := Tryz.isAgg244
  z66 := Tryz.sizeOf244
  v66 := Tryz.zeroValue244
  t70 := Tryz.underlying102
  a70 := Tryz.isAgg102
  z70 := Tryz.sizeOf102
  v70 := Tryz.zeroValue102
  t76 := Tryz.underlying267
  a76 := Tryz.isAgg267
  z76 := Tryz.sizeOf267
  v76 := Tryz.zeroValue267
  t77 := Tryz.underlying268
  a77 := Tryz.isAgg268
  z77 := Tryz.sizeOf268
  v77 := Tryz.zeroValue268 }
def Tryz.laysGrow_ren : Go.Shelf.Ren := ⟨fun | 4 => 289 | n => n, fun | 22 => 22 | 25 => 33 | 3 => 3 | 4 => 4 | 9 => 9 | 20 => 20 | 0 => 0 | n => n, fun | n => n⟩
theorem Tryz.laysGrow : Go.Proofs.Lays8.n4 Tryz.prog Tryz.laysGrow_ren := {
  mixed := by kernel_rfl
  f4 := ⟨Tryz.f289.name, by decide, Tryz.func289.trans (congrArg some (by kernel_rfl))⟩
  t0 := Tryz.underlying0
  a0 := Tryz.isAgg0
  z0 := Tryz.sizeOf0
  v0 := Tryz.zeroValue0
  t3 := Tryz.underlying3
  a3 := Tryz.isAgg3
  z3 := Tryz.sizeOf3
  v3 := Tryz.zeroValue3
  t4 := Tryz.underlying4
  a4 := Tryz.isAgg4
  z4 := Tryz.sizeOf4
  v4 := Tryz.zeroValue4
  t9 := Tryz.underlying9
  a9 := Tryz.isAgg9
  z9 := Tryz.sizeOf9
  v9 := Tryz.zeroValue9
  t20 := Tryz.underlying20
  a20 := Tryz.isAgg20
  z20 := Tryz.sizeOf20
  v20 := Tryz.zeroValue20
  t22 := Tryz.underlying22
  a22 := Tryz.isAgg22
  z22 := Tryz.sizeOf22
  v22 := Tryz.zeroValue22 }
end Go.Proofs
