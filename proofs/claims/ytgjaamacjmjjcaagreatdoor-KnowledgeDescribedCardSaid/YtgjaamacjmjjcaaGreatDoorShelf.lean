/-
  Contracts of library functions at this program, in plain words (written by the shelf's tools).
-/
import Derived.Shelf.Strings.SlTrimAscii
import Derived.Shelf.SlSortCmp.WholeK
import Derived.Shelf.SlSortCmp.NoneTotal
import Derived.Shelf.Spec.SlicesGrow
import Derived.Shelf.Strings.Trim
import Derived.Shelf.Small.Utf8
import Derived.Shelf.Small.Bits
import Derived.Shelf.Small.Strs
import Derived.Shelf.Strconv.Itoa0
import Derived.Shelf.Strings.Search1
import Derived.Shelf.Unicode.Decode
import Derived.Shelf.Strings.Runes
import Derived.Shelf.Strings.AsciiSet
import Derived.Shelf.Unicode.DecodeSlow
import Derived.Shelf.Unicode.DecodeAny
import Derived.Shelf.Unicode.DecodeLast
import Derived.Test.YtgjaamacjmjjcaaGreatDoorProg
namespace Go.Proofs
open Go.Shelf
def Tryz.lays160_ren : Go.Shelf.Ren := ⟨fun | 160 => 214 | 232 => 253 | 231 => 252 | 227 => 254 | 234 => 256 | 233 => 255 | 236 => 258 | 235 => 257 | 228 => 281 | 271 => 284 | 151 => 283 | 197 => 282 | 120 => 297 | 152 => 296 | 260 => 295 | 137 => 307 | 119 => 308 | 224 => 309 | 225 => 310 | 217 => 314 | 266 => 315 | n => n, fun | 9 => 9 | 4 => 4 | 3 => 3 | 5 => 5 | 117 => 209 | 116 => 208 | 0 => 0 | 124 => 212 | 21 => 21 | 105 => 235 | 46 => 96 | 119 => 261 | 139 => 264 | 138 => 263 | n => n, fun | 3 => 1 | 4 => 2 | n => n⟩
theorem Tryz.lays160 : Go.Proofs.Lays.n160 Tryz.prog Tryz.lays160_ren := {
  mixed := by kernel_rfl
  f119 := Tryz.func308.trans (congrArg some (by kernel_rfl))
  f120 := Tryz.func297.trans (congrArg some (by kernel_rfl))
  f137 := Tryz.func307.trans (congrArg some (by kernel_rfl))
  f151 := Tryz.func283.trans (congrArg some (by kernel_rfl))
  f152 := Tryz.func296.trans (congrArg some (by kernel_rfl))
  f160 := Tryz.func214.trans (congrArg some (by kernel_rfl))
  f197 := Tryz.func282.trans (congrArg some (by kernel_rfl))
  f217 := Tryz.func314.trans (congrArg some (by kernel_rfl))
  f224 := Tryz.func309.trans (congrArg some (by kernel_rfl))
  f225 := Tryz.func310.trans (congrArg some (by kernel_rfl))
  f227 := Tryz.func254.trans (congrArg some (by kernel_rfl))
  f228 := Tryz.func281.trans (congrArg some (by kernel_rfl))
  f231 := Tryz.func252.trans (congrArg some (by kernel_rfl))
  f232 := Tryz.func253.trans (congrArg some (by kernel_rfl))
  f233 := Tryz.func255.trans (congrArg some (by kernel_rfl))
  f234 := Tryz.func256.trans (congrArg some (by kernel_rfl))
  f235 := Tryz.func257.trans (congrArg some (by kernel_rfl))
  f236 := Tryz.func258.trans (congrArg some (by kernel_rfl))
  f260 := Tryz.func295.trans (congrArg some (by kernel_rfl))
  f266 := Tryz.func315.trans (congrArg some (by kernel_rfl))
  f271 := Tryz.func284.trans (congrArg some (by kernel_rfl))
  t0 := Tryz.underlying0
  a0 := Tryz.isAgg0
  z0 := Tryz.sizeOf0
  v0 := Tryz.zeroValue0
  t3 := Tryz.underlying3
  a3 := Tryz.isAgg3
  z3 := Tryz.sizeOf3
  v3 := Tryz.zeroValue3
  t4 := Tryz.underlying4
  a4 := Tryz.isAgg4
  z4 := Tryz.sizeOf4
  v4 := Tryz.zeroValue4
  t5 := Tryz.underlying5
  a5 := Tryz.isAgg5
  z5 := Tryz.sizeOf5
  v5 := Tryz.zeroValue5
  t9 := Tryz.underlying9
  a9 := Tryz.isAgg9
  z9 := Tryz.sizeOf9
  v9 := Tryz.zeroValue9
  t21 := Tryz.underlying21
  a21 := Tryz.isAgg21
  z21 := Tryz.sizeOf21
  v21 := Tryz.zeroValue21
  t46 := Tryz.underlying96
  a46 := Tryz.isAgg96
  z46 := Tryz.sizeOf96
  v46 := Tryz.zeroValue96
  t105 := Tryz.underlying235
  a105 := Tryz.isAgg235
  z105 := Tryz.sizeOf235
  v105 := Tryz.zeroValue235
  t116 := Tryz.underlying208
  a116 := Tryz.isAgg208
  z116 := Tryz.sizeOf208
  t117 := Tryz.underlying209
  a117 := Tryz.isAgg209
  z117 := Tryz.sizeOf209
  v117 := Tryz.zeroValue209
  t119 := Tryz.underlying261
  a119 := Tryz.isAgg261
  z119 := Tryz.sizeOf261
  t124 := Tryz.underlying212
  a124 := Tryz.isAgg212
  z124 := Tryz.sizeOf212
  v124 := Tryz.zeroValue212
  t138 := Tryz.underlying263
  a138 := Tryz.isAgg263
  z138 := Tryz.sizeOf263
  v138 := Tryz.zeroValue263
  t139 := Tryz.underlying264
  a139 := Tryz.isAgg264
  z139 := Tryz.sizeOf264
  v139 := Tryz.zeroValue264
  g3 := by kernel_rfl
  g4 := by kernel_rfl }
def Tryz.lays106_ren : Go.Shelf.Ren := ⟨fun | 106 => 103 | 213 => 158 | 265 => 212 | n => n, fun | 9 => 9 | 3 => 3 | n => n, fun | n => n⟩
theorem Tryz.lays106 : Go.Proofs.Lays.n106 Tryz.prog Tryz.lays106_ren := {
  mixed := by kernel_rfl
  f106 := Tryz.func103.trans (congrArg some (by kernel_rfl))
  f213 := Tryz.func158.trans (congrArg some (by kernel_rfl))
  f265 := Tryz.func212.trans (congrArg some (by kernel_rfl))
  t3 := Tryz.underlying3
  a3 := Tryz.isAgg3
  z3 := Tryz.sizeOf3
  v3 := Tryz.zeroValue3
  t9 := Tryz.underlying9
  a9 := Tryz.isAgg9
  z9 := Tryz.sizeOf9
  v9 := Tryz.zeroValue9 }
open Go.RowKit in
theorem Tryz.strings_Compare (a b : ByteArray) (w : World) :
    Calls Tryz.prog 103 #[.string a, .string b] w fun e w' => e = .returned (.int .i64 (Lib.compareBytes a.data.toList b.data.toList)) ∧ w' = w := Any.strings_Compare Tryz.lays106 a b w
def Tryz.lays217_ren : Go.Shelf.Ren := ⟨fun | 217 => 314 | 266 => 315 | n => n, fun | 9 => 9 | 5 => 5 | 3 => 3 | n => n, fun | n => n⟩
theorem Tryz.lays217 : Go.Proofs.Lays.n217 Tryz.prog Tryz.lays217_ren := {
  mixed := by kernel_rfl
  f217 := Tryz.func314.trans (congrArg some (by kernel_rfl))
  f266 := Tryz.func315.trans (congrArg some (by kernel_rfl))
  t3 := Tryz.underlying3
  a3 := Tryz.isAgg3
  z3 := Tryz.sizeOf3
  v3 := Tryz.zeroValue3
  t5 := Tryz.underlying5
  a5 := Tryz.isAgg5
  z5 := Tryz.sizeOf5
  v5 := Tryz.zeroValue5
  t9 := Tryz.underlying9
  a9 := Tryz.isAgg9
  z9 := Tryz.sizeOf9
  v9 := Tryz.zeroValue9 }
open Go.RowKit Go.Lib in
theorem Tryz.stringslite_IndexByte (s : ByteArray) (c : Int) (w : World) :
    Calls Tryz.prog 314 #[.string s, .int .u8 c] w fun e w' => e = .returned (.int .i64 (Lib.indexByte s.data.toList c.toNat.toUInt8)) ∧ w' = w := Any.stringslite_IndexByte Tryz.lays217 s c w
def Tryz.laysSortFunc_ren : Go.Shelf.Ren := ⟨fun | 6 => 64 | 15 => 100 | 14 => 99 | 28 => 156 | 29 => 157 | 20 => 148 | 21 => 149 | 22 => 150 | 23 => 151 | 24 => 152 | 25 => 153 | 26 => 154 | 27 => 155 | 46 => 207 | 47 => 208 | 48 => 209 | 49 => 210 | 50 => 211 | 57 => 250 | n => n, fun | 22 => 22 | 24 => 24 | 25 => 73 | 3 => 3 | 39 => 96 | 0 => 0 | 53 => 135 | 55 => 137 | 4 => 4 | 46 => 129 | 45 => 128 | 50 => 75 | 5 => 5 | 9 => 9 | 66 => 165 | 70 => 160 | 76 => 202 | 77 => 203 | n => n, fun | n => n⟩
theorem Tryz.laysSortFunc : Go.Proofs.SlLaysF0.n6 Tryz.prog Tryz.laysSortFunc_ren := {
  mixed := by kernel_rfl
  f6 := ⟨Tryz.f64.name, by decide, Tryz.func64.trans (congrArg some (by kernel_rfl))⟩
  f14 := ⟨Tryz.f99.name, by decide, Tryz.func99.trans (congrArg some (by kernel_rfl))⟩
  f15 := Tryz.func100.trans (congrArg some (by kernel_rfl))
  f20 := ⟨Tryz.f148.name, by decide, Tryz.func148.trans (congrArg some (by kernel_rfl))⟩
  f21 := ⟨Tryz.f149.name, by decide, Tryz.func149.trans (congrArg some (by kernel_rfl))⟩
  f22 := ⟨Tryz.f150.name, by decide, Tryz.func150.trans (congrArg some (by kernel_rfl))⟩
  f23 := ⟨Tryz.f151.name, by decide, Tryz.func151.trans (congrArg some (by kernel_rfl))⟩
  f24 := ⟨Tryz.f152.name, by decide, Tryz.func152.trans (congrArg some (by kernel_rfl))⟩
  f25 := ⟨Tryz.f153.name, by decide, Tryz.func153.trans (congrArg some (by kernel_rfl))⟩
  f26 := ⟨Tryz.f154.name, by decide, Tryz.func154.trans (congrArg some (by kernel_rfl))⟩
  f27 := ⟨Tryz.f155.name, by decide, Tryz.func155.trans (congrArg some (by kernel_rfl))⟩
  f28 := Tryz.func156.trans (congrArg some (by kernel_rfl))
  f29 := Tryz.func157.trans (congrArg some (by kernel_rfl))
  f46 := ⟨Tryz.f207.name, by decide, Tryz.func207.trans (congrArg some (by kernel_rfl))⟩
  f47 := Tryz.func208.trans (congrArg some (by kernel_rfl))
  f48 := Tryz.func209.trans (congrArg some (by kernel_rfl))
  f49 := ⟨Tryz.f210.name, by decide, Tryz.func210.trans (congrArg some (by kernel_rfl))⟩
  f50 := ⟨Tryz.f211.name, by decide, Tryz.func211.trans (congrArg some (by kernel_rfl))⟩
  f57 := ⟨Tryz.f250.name, by decide, Tryz.func250.trans (congrArg some (by kernel_rfl))⟩
  t0 := Tryz.underlying0
  a0 := Tryz.isAgg0
  z0 := Tryz.sizeOf0
  v0 := Tryz.zeroValue0
  t3 := Tryz.underlying3
  a3 := Tryz.isAgg3
  z3 := Tryz.sizeOf3
  v3 := Tryz.zeroValue3
  t4 := Tryz.underlying4
  a4 := Tryz.isAgg4
  z4 := Tryz.sizeOf4
  v4 := Tryz.zeroValue4
  t5 := Tryz.underlying5
  a5 := Tryz.isAgg5
  z5 := Tryz.sizeOf5
  v5 := Tryz.zeroValue5
  t9 := Tryz.underlying9
  a9 := Tryz.isAgg9
  z9 := Tryz.sizeOf9
  v9 := Tryz.zeroValue9
  t22 := Tryz.underlying22
  a22 := Tryz.isAgg22
  z22 := Tryz.sizeOf22
  v22 := Tryz.zeroValue22
  t25 := Tryz.underlying73
  a25 := Tryz.isAgg73
  z25 := Tryz.sizeOf73
  v25 := Tryz.zeroValue73
  t39 := Tryz.underlying96
  a39 := Tryz.isAgg96
  z39 := Tryz.sizeOf96
  v39 := Tryz.zeroValue96
  t45 := Tryz.underlying128
  a45 := Tryz.isAgg128
  z45 := Tryz.sizeOf128
  v45 := Tryz.zeroValue128
  t46 := Tryz.underlying129
  a46 := Tryz.isAgg129
  z46 := Tryz.sizeOf129
  v46 := Tryz.zeroValue129
  t50 := Tryz.underlying75
  a50 := Tryz.isAgg75
  z50 := Tryz.sizeOf75
  v50 := Tryz.zeroValue75
  t53 := Tryz.underlying135
  a53 := Tryz.isAgg135
  z53 := Tryz.sizeOf135
  v53 := Tryz.zeroValue135
  t55 := Tryz.underlying137
  a55 := Tryz.isAgg137
  z55 := Tryz.sizeOf137
  v55 := Tryz.zeroValue137
  t66 := Tryz.underlying165
  a66 := Tryz.isAgg165
  z66 := Tryz.sizeOf165
  v66 := Tryz.zeroValue165
  t70 := Tryz.underlying160
  a70 := Tryz.isAgg160
  z70 := Tryz.sizeOf160
  v70 := Tryz.zeroValue160
  t76 := Tryz.underlying202
  a76 := Tryz.isAgg202
  z76 := Tryz.sizeOf202
  v76 := Tryz.zeroValue202
  t77 := Tryz.underlying203
  a77 := Tryz.isAgg203
  z77 := Tryz.sizeOf203
  v77 := Tryz.zeroValue203 }
def Tryz.laysGrow_ren : Go.Shelf.Ren := ⟨fun | 4 => 87 | n => n, fun | 22 => 22 | 25 => 24 | 3 => 3 | 4 => 4 | 9 => 9 | 20 => 20 | 0 => 0 | n => n, fun | n => n⟩
theorem Tryz.laysGrow : Go.Proofs.Lays8.n4 Tryz.prog Tryz.laysGrow_ren := {
  mixed := by kernel_rfl
  f4 := ⟨Tryz.f87.name, by decide, Tryz.func87.trans (congrArg some (by kernel_rfl))⟩
  t0 := Tryz.underlying0
  a0 := Tryz.isAgg0
  z0 := Tryz.sizeOf0
  v0 := Tryz.zeroValue0
  t3 := Tryz.underlying3
  a3 := Tryz.isAgg3
  z3 := Tryz.sizeOf3
  v3 := Tryz.zeroValue3
  t4 := Tryz.underlying4
  a4 := Tryz.isAgg4
  z4 := Tryz.sizeOf4
  v4 := Tryz.zeroValue4
  t9 := Tryz.underlying9
  a9 := Tryz.isAgg9
  z9 := Tryz.sizeOf9
  v9 := Tryz.zeroValue9
  t20 := Tryz.underlying20
  a20 := Tryz.isAgg20
  z20 := Tryz.sizeOf20
  v20 := Tryz.zeroValue20
  t22 := Tryz.underlying22
  a22 := Tryz.isAgg22
  z22 := Tryz.sizeOf22
  v22 := Tryz.zeroValue22 }
end Go.Proofs
