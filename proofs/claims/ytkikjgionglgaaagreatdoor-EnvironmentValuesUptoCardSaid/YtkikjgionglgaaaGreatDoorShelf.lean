/-
  Contracts of library functions at this program, in plain words (written by the shelf's tools).
-/
import Derived.Shelf.Strings.SlTrimAscii
import Derived.Shelf.SlSortCmp.WholeK
import Derived.Shelf.SlSortCmp.NoneTotal
import Derived.Shelf.Spec.SlicesGrow
import Derived.Shelf.Strings.Trim
import Derived.Shelf.Small.Utf8
import Derived.Shelf.Small.Bits
import Derived.Shelf.Small.Strs
import Derived.Shelf.Strconv.Itoa0
import Derived.Shelf.Strings.Search1
import Derived.Shelf.Strings.Runes
import Derived.Shelf.Strings.AsciiSet
import Derived.Test.YtkikjgionglgaaaGreatDoorProg
namespace Go.Proofs
open Go.Shelf
def Tryz.lays160_ren : Go.Shelf.Ren := ⟨fun | 160 => 227 | 232 => 256 | 231 => 255 | 227 => 257 | 234 => 259 | 233 => 258 | 236 => 261 | 235 => 260 | 228 => 277 | 271 => 280 | 151 => 279 | 197 => 278 | 120 => 288 | 152 => 287 | 260 => 286 | 137 => 295 | 119 => 296 | 224 => 203 | 225 => 202 | 217 => 201 | 266 => 240 | n => n, fun | 9 => 9 | 4 => 4 | 3 => 3 | 5 => 5 | 117 => 204 | 116 => 203 | 0 => 0 | 124 => 207 | 21 => 21 | 105 => 225 | 46 => 108 | 119 => 242 | 139 => 245 | 138 => 244 | n => n, fun | 3 => 1 | 4 => 2 | n => n⟩
theorem Tryz.lays160 : Go.Proofs.Lays.n160 Tryz.prog Tryz.lays160_ren := {
  mixed := by kernel_rfl
  f119 := Tryz.func296.trans (congrArg some (by kernel_rfl))
  f120 := Tryz.func288.trans (congrArg some (by kernel_rfl))
  f137 := Tryz.func295.trans (congrArg some (by kernel_rfl))
  f151 := Tryz.func279.trans (congrArg some (by kernel_rfl))
  f152 := Tryz.func287.trans (congrArg some (by kernel_rfl))
  f160 := Tryz.func227.trans (congrArg some (by kernel_rfl))
  f197 := Tryz.func278.trans (congrArg some (by kernel_rfl))
  f217 := Tryz.func201.trans (congrArg some (by kernel_rfl))
  f224 := Tryz.func203.trans (congrArg some (by kernel_rfl))
  f225 := Tryz.func202.trans (congrArg some (by kernel_rfl))
  f227 := Tryz.func257.trans (congrArg some (by kernel_rfl))
  f228 := Tryz.func277.trans (congrArg some (by kernel_rfl))
  f231 := Tryz.func255.trans (congrArg some (by kernel_rfl))
  f232 := Tryz.func256.trans (congrArg some (by kernel_rfl))
  f233 := Tryz.func258.trans (congrArg some (by kernel_rfl))
  f234 := Tryz.func259.trans (congrArg some (by kernel_rfl))
  f235 := Tryz.func260.trans (congrArg some (by kernel_rfl))
  f236 := Tryz.func261.trans (congrArg some (by kernel_rfl))
  f260 := Tryz.func286.trans (congrArg some (by kernel_rfl))
  f266 := Tryz.func240.trans (congrArg some (by kernel_rfl))
  f271 := Tryz.func280.trans (congrArg some (by kernel_rfl))
  t0 := Tryz.underlying0
  a0 := Tryz.isAgg0
  z0 := Tryz.sizeOf0
  v0 := Tryz.zeroValue0
  t3 := Tryz.underlying3
  a3 := Tryz.isAgg3
  z3 := Tryz.sizeOf3
  v3 := Tryz.zeroValue3
  t4 := Tryz.underlying4
  a4 := Tryz.isAgg4
  z4 := Tryz.sizeOf4
  v4 := Tryz.zeroValue4
  t5 := Tryz.underlying5
  a5 := Tryz.isAgg5
  z5 := Tryz.sizeOf5
  v5 := Tryz.zeroValue5
  t9 := Tryz.underlying9
  a9 := Tryz.isAgg9
  z9 := Tryz.sizeOf9
  v9 := Tryz.zeroValue9
  t21 := Tryz.underlying21
  a21 := Tryz.isAgg21
  z21 := Tryz.sizeOf21
  v21 := Tryz.zeroValue21
  t46 := Tryz.underlying108
  a46 := Tryz.isAgg108
  z46 := Tryz.sizeOf108
  v46 := Tryz.zeroValue108
  t105 := Tryz.underlying225
  a105 := Tryz.isAgg225
  z105 := Tryz.sizeOf225
  v105 := Tryz.zeroValue225
  t116 := Tryz.underlying203
  a116 := Tryz.isAgg203
  z116 := Tryz.sizeOf203
  t117 := Tryz.underlying204
  a117 := Tryz.isAgg204
  z117 := Tryz.sizeOf204
  v117 := Tryz.zeroValue204
  t119 := Tryz.underlying242
  a119 := Tryz.isAgg242
  z119 := Tryz.sizeOf242
  t124 := Tryz.underlying207
  a124 := Tryz.isAgg207
  z124 := Tryz.sizeOf207
  v124 := Tryz.zeroValue207
  t138 := Tryz.underlying244
  a138 := Tryz.isAgg244
  z138 := Tryz.sizeOf244
  v138 := Tryz.zeroValue244
  t139 := Tryz.underlying245
  a139 := Tryz.isAgg245
  z139 := Tryz.sizeOf245
  v139 := Tryz.zeroValue245
  g3 := by kernel_rfl
  g4 := by kernel_rfl }
def Tryz.lays106_ren : Go.Shelf.Ren := ⟨fun | 106 => 119 | 213 => 153 | 265 => 183 | n => n, fun | 9 => 9 | 3 => 3 | n => n, fun | n => n⟩
theorem Tryz.lays106 : Go.Proofs.Lays.n106 Tryz.prog Tryz.lays106_ren := {
  mixed := by kernel_rfl
  f106 := Tryz.func119.trans (congrArg some (by kernel_rfl))
  f213 := Tryz.func153.trans (congrArg some (by kernel_rfl))
  f265 := Tryz.func183.trans (congrArg some (by kernel_rfl))
  t3 := Tryz.underlying3
  a3 := Tryz.isAgg3
  z3 := Tryz.sizeOf3
  v3 := Tryz.zeroValue3
  t9 := Tryz.underlying9
  a9 := Tryz.isAgg9
  z9 := Tryz.sizeOf9
  v9 := Tryz.zeroValue9 }
open Go.RowKit in
theorem Tryz.strings_Compare (a b : ByteArray) (w : World) :
    Calls Tryz.prog 119 #[.string a, .string b] w fun e w' => e = .returned (.int .i64 (Lib.compareBytes a.data.toList b.data.toList)) ∧ w' = w := Any.strings_Compare Tryz.lays106 a b w
def Tryz.lays217_ren : Go.Shelf.Ren := ⟨fun | 217 => 201 | 266 => 240 | n => n, fun | 9 => 9 | 5 => 5 | 3 => 3 | n => n, fun | n => n⟩
theorem Tryz.lays217 : Go.Proofs.Lays.n217 Tryz.prog Tryz.lays217_ren := {
  mixed := by kernel_rfl
  f217 := Tryz.func201.trans (congrArg some (by kernel_rfl))
  f266 := Tryz.func240.trans (congrArg some (by kernel_rfl))
  t3 := Tryz.underlying3
  a3 := Tryz.isAgg3
  z3 := Tryz.sizeOf3
  v3 := Tryz.zeroValue3
  t5 := Tryz.underlying5
  a5 := Tryz.isAgg5
  z5 := Tryz.sizeOf5
  v5 := Tryz.zeroValue5
  t9 := Tryz.underlying9
  a9 := Tryz.isAgg9
  z9 := Tryz.sizeOf9
  v9 := Tryz.zeroValue9 }
open Go.RowKit Go.Lib in
theorem Tryz.stringslite_IndexByte (s : ByteArray) (c : Int) (w : World) :
    Calls Tryz.prog 201 #[.string s, .int .u8 c] w fun e w' => e = .returned (.int .i64 (Lib.indexByte s.data.toList c.toNat.toUInt8)) ∧ w' = w := Any.stringslite_IndexByte Tryz.lays217 s c w
def Tryz.laysSortFunc_ren : Go.Shelf.Ren := ⟨fun | 6 => 77 | 15 => 116 | 14 => 115 | 28 => 151 | 29 => 152 | 20 => 143 | 21 => 144 | 22 => 145 | 23 => 146 | 24 => 147 | 25 => 148 | 26 => 149 | 27 => 150 | 46 => 178 | 47 => 179 | 48 => 180 | 49 => 181 | 50 => 182 | 57 => 223 | n => n, fun | 22 => 27 | 24 => 40 | 25 => 76 | 3 => 3 | 39 => 108 | 0 => 0 | 53 => 126 | 55 => 128 | 4 => 4 | 46 => 120 | 45 => 119 | 50 => 114 | 5 => 5 | 9 => 9 | 66 => 143 | 70 => 103 | 76 => 172 | 77 => 173 | n => n, fun | n => n⟩
theorem Tryz.laysSortFunc : Go.Proofs.SlLaysF0.n6 Tryz.prog Tryz.laysSortFunc_ren := {
  mixed := by kernel_rfl
  f6 := ⟨Tryz.f77.name, by decide, Tryz.func77.trans (congrArg some (by kernel_rfl))⟩
  f14 := ⟨Tryz.f115.name, by decide, Tryz.func115.trans (congrArg some (by kernel_rfl))⟩
  f15 := Tryz.func116.trans (congrArg some (by kernel_rfl))
  f20 := ⟨Tryz.f143.name, by decide, Tryz.func143.trans (congrArg some (by kernel_rfl))⟩
  f21 := ⟨Tryz.f144.name, by decide, Tryz.func144.trans (congrArg some (by kernel_rfl))⟩
  f22 := ⟨Tryz.f145.name, by decide, Tryz.func145.trans (congrArg some (by kernel_rfl))⟩
  f23 := ⟨Tryz.f146.name, by decide, Tryz.func146.trans (congrArg some (by kernel_rfl))⟩
  f24 := ⟨Tryz.f147.name, by decide, Tryz.func147.trans (congrArg some (by kernel_rfl))⟩
  f25 := ⟨Tryz.f148.name, by decide, Tryz.func148.trans (congrArg some (by kernel_rfl))⟩
  f26 := ⟨Tryz.f149.name, by decide, Tryz.func149.trans (congrArg some (by kernel_rfl))⟩
  f27 := ⟨Tryz.f150.name, by decide, Tryz.func150.trans (congrArg some (by kernel_rfl))⟩
  f28 := Tryz.func151.trans (congrArg some (by kernel_rfl))
  f29 := Tryz.func152.trans (congrArg some (by kernel_rfl))
  f46 := ⟨Tryz.f178.name, by decide, Tryz.func178.trans (congrArg some (by kernel_rfl))⟩
  f47 := Tryz.func179.trans (congrArg some (by kernel_rfl))
  f48 := Tryz.func180.trans (congrArg some (by kernel_rfl))
  f49 := ⟨Tryz.f181.name, by decide, Tryz.func181.trans (congrArg some (by kernel_rfl))⟩
  f50 := ⟨Tryz.f182.name, by decide, Tryz.func182.trans (congrArg some (by kernel_rfl))⟩
  f57 := ⟨Tryz.f223.name, by decide, Tryz.func223.trans (congrArg some (by kernel_rfl))⟩
  t0 := Tryz.underlying0
  a0 := Tryz.isAgg0
  z0 := Tryz.sizeOf0
  v0 := Tryz.zeroValue0
  t3 := Tryz.underlying3
  a3 := Tryz.isAgg3
  z3 := Tryz.sizeOf3
  v3 := Tryz.zeroValue3
  t4 := Tryz.underlying4
  a4 := Tryz.isAgg4
  z4 := Tryz.sizeOf4
  v4 := Tryz.zeroValue4
  t5 := Tryz.underlying5
  a5 := Tryz.isAgg5
  z5 := Tryz.sizeOf5
  v5 := Tryz.zeroValue5
  t9 := Tryz.underlying9
  a9 := Tryz.isAgg9
  z9 := Tryz.sizeOf9
  v9 := Tryz.zeroValue9
  t22 := Tryz.underlying27
  a22 := Tryz.isAgg27
  z22 := Tryz.sizeOf27
  v22 := Tryz.zeroValue27
  t25 := Tryz.underlying76
  a25 := Tryz.isAgg76
  z25 := Tryz.sizeOf76
  v25 := Tryz.zeroValue76
  t39 := Tryz.underlying108
  a39 := Tryz.isAgg108
  z39 := Tryz.sizeOf108
  v39 := Tryz.zeroValue108
  t45 := Tryz.underlying119
  a45 := Tryz.isAgg119
  z45 := Tryz.sizeOf119
  v45 := Tryz.zeroValue119
  t46 := Tryz.underlying120
  a46 := Tryz.isAgg120
  z46 := Tryz.sizeOf120
  v46 := Tryz.zeroValue120
  t50 := Tryz.underlying114
  a50 := Tryz.isAgg114
  z50 := Tryz.sizeOf114
  v50 := Tryz.zeroValue114
  t53 := Tryz.underlying126
  a53 := Tryz.isAgg126
  z53 := Tryz.sizeOf126
  v53 := Tryz.zeroValue126
  t55 := Tryz.underlying128
  a55 := Tryz.isAgg128
  z55 := Tryz.sizeOf128
  v55 := Tryz.zeroValue128
  t66 := Tryz.underlying143
  a66 := Tryz.isAgg143
  z66 := Tryz.sizeOf143
  v66 := Tryz.zeroValue143
  t70 := Tryz.underlying103
  a70 := Tryz.isAgg103
  z70 := Tryz.sizeOf103
  v70 := Tryz.zeroValue103
  t76 := Tryz.underlying172
  a76 := Tryz.isAgg172
  z76 := Tryz.sizeOf172
  v76 := Tryz.zeroValue172
  t77 := Tryz.underlying173
  a77 := Tryz.isAgg173
  z77 := Tryz.sizeOf173
  v77 := Tryz.zeroValue173 }
def Tryz.laysGrow_ren : Go.Shelf.Ren := ⟨fun | 4 => 154 | n => n, fun | 22 => 27 | 25 => 40 | 3 => 3 | 4 => 4 | 9 => 9 | 20 => 20 | 0 => 0 | n => n, fun | n => n⟩
theorem Tryz.laysGrow : Go.Proofs.Lays8.n4 Tryz.prog Tryz.laysGrow_ren := {
  mixed := by kernel_rfl
  f4 := ⟨Tryz.f154.name, by decide, Tryz.func154.trans (congrArg some (by kernel_rfl))⟩
  t0 := Tryz.underlying0
  a0 := Tryz.isAgg0
  z0 := Tryz.sizeOf0
  v0 := Tryz.zeroValue0
  t3 := Tryz.underlying3
  a3 := Tryz.isAgg3
  z3 := Tryz.sizeOf3
  v3 := Tryz.zeroValue3
  t4 := Tryz.underlying4
  a4 := Tryz.isAgg4
  z4 := Tryz.sizeOf4
  v4 := Tryz.zeroValue4
  t9 := Tryz.underlying9
  a9 := Tryz.isAgg9
  z9 := Tryz.sizeOf9
  v9 := Tryz.zeroValue9
  t20 := Tryz.underlying20
  a20 := Tryz.isAgg20
  z20 := Tryz.sizeOf20
  v20 := Tryz.zeroValue20
  t22 := Tryz.underlying27
  a22 := Tryz.isAgg27
  z22 := Tryz.sizeOf27
  v22 := Tryz.zeroValue27 }
end Go.Proofs
