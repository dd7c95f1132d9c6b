/-
  AM: the code of the functions, second part, and the table.
-/
import Derived.Test.YtdabongfphoilaaGreatDoorCodeA
set_option linter.unusedVariables false
set_option linter.unusedSimpArgs false

namespace Go.Am.F
/-- sealring/sealringref54.New : 103 -/
def sealringref54_New_b : AC :=
  .seq (.reg false [
      ⟨some 4, .alloc [.str [], .int .i64 0, .sl true 6 [], .int .i64 0, .sl true 2 [], .int .i64 0, .int .i64 0], none⟩,
      ⟨some 5, .mov (.c (.int .i64 0)), none⟩]) (.seq (.seq (.reg false [
      ⟨some 6, .mov (.t 0), none⟩,
      ⟨some 7, .call 104 [.t 6], none⟩,
      ⟨some 8, .un .not (.t 7), none⟩]) (.cond (.t 8) (.seq (.reg false [
      ⟨some 9, .mkst [.str [], .int .i64 0, .sl true 6 [], .int .i64 0, .sl true 2 [], .int .i64 0, .int .i64 0] [], none⟩,
      ⟨none, .stf 4 0 7 (.t 9), none⟩,
      ⟨some 5, .mov (.c (.int .i64 2)), none⟩]) (.ret)) (.skip))) (.seq (.seq (.reg false [
      ⟨some 10, .mov (.t 1), none⟩,
      ⟨some 11, .bin .lss (.t 10) (.c (.int .i64 1)), none⟩,
      ⟨some 12, .mov (.t 11), none⟩,
      ⟨some 13, .mov (.t 1), some (12, false)⟩,
      ⟨some 14, .bin .gtr (.t 13) (.c (.int .i64 1000)), some (12, false)⟩,
      ⟨some 15, .pick (.t 12) (.c (.bool true)) (.t 14), none⟩]) (.cond (.t 15) (.seq (.reg false [
      ⟨some 16, .mkst [.str [], .int .i64 0, .sl true 6 [], .int .i64 0, .sl true 2 [], .int .i64 0, .int .i64 0] [], none⟩,
      ⟨none, .stf 4 0 7 (.t 16), none⟩,
      ⟨some 5, .mov (.c (.int .i64 7)), none⟩]) (.ret)) (.skip))) (.seq (.reg false [
      ⟨some 17, .mov (.t 0), none⟩,
      ⟨some 18, .mov (.t 1), none⟩,
      ⟨some 19, .mov (.t 0), none⟩,
      ⟨some 20, .call 105 [.t 19, .c (.int .i64 0)], none⟩,
      ⟨some 21, .mkst [.int .i64 0, .int .i64 0, .int .i64 0, .str [], .int .i64 0, .sl true 4 []] [(2, 4, .t 20)], none⟩,
      ⟨some 22, .mksl 6 [.t 21], none⟩,
      ⟨some 23, .mkst [.str [], .int .i64 0, .sl true 6 [], .int .i64 0, .sl true 2 [], .int .i64 0, .int .i64 0] [(0, 1, .t 17), (5, 1, .t 18), (2, 1, .t 22)], none⟩,
      ⟨none, .stf 4 0 7 (.t 23), none⟩,
      ⟨some 5, .mov (.c (.int .i64 0)), none⟩]) (.ret))))

def sealringref54_New : AFun := { nparams := 2, ntmps := 24, res := [.cell 4 7 true, .tmp 5], keep := false, body := sealringref54_New_b }
theorem sealringref54_New_body : sealringref54_New.body = sealringref54_New_b := rfl
theorem sealringref54_New_res : sealringref54_New.res = [.cell 4 7 true, .tmp 5] := rfl
theorem sealringref54_New_keep : sealringref54_New.keep = false := rfl

def sealringref54_rightName_l0 : AC :=
  .seq (.seq (.reg false [
      ⟨some 4, .mov (.t 3), none⟩,
      ⟨some 5, .mov (.t 0), none⟩,
      ⟨some 6, .lens (.t 5), none⟩,
      ⟨some 7, .bin .lss (.t 4) (.t 6), none⟩]) (.cond (.t 7) (.skip) (.exit 0))) (.seq (.block 1 (.seq (.reg false [
      ⟨some 10, .mov (.t 0), none⟩,
      ⟨some 11, .mov (.t 3), none⟩,
      ⟨some 12, .idx (.t 10) (.t 11), none⟩,
      ⟨some 13, .bin .eql (.t 12) (.c (.int .u8 35)), none⟩,
      ⟨some 14, .mov (.t 13), none⟩,
      ⟨some 15, .mov (.t 0), some (14, false)⟩,
      ⟨some 16, .mov (.t 3), some (14, false)⟩,
      ⟨some 17, .idx (.t 15) (.t 16), some (14, false)⟩,
      ⟨some 18, .bin .eql (.t 17) (.c (.int .u8 95)), some (14, false)⟩,
      ⟨some 19, .pick (.t 14) (.c (.bool true)) (.t 18), none⟩]) (.cond (.t 19) (.seq (.reg false [
      ⟨some 2, .mov (.c (.bool false)), none⟩]) (.ret)) (.skip)))) (.reg false [
      ⟨some 8, .mov (.t 3), none⟩,
      ⟨some 9, .bin .add (.t 8) (.c (.int .i64 1)), none⟩,
      ⟨some 3, .mov (.t 9), none⟩]))

def sealringref54_rightName_r0 : AC :=
  .seq (.reg false [
      ⟨some 20, .mov (.t 0), none⟩,
      ⟨some 21, .call 57 [.t 20], none⟩,
      ⟨some 22, .mov (.t 21), none⟩,
      ⟨some 23, .mov (.t 0), some (22, true)⟩,
      ⟨some 24, .lens (.t 23), some (22, true)⟩,
      ⟨some 25, .bin .leq (.t 24) (.c (.int .i64 10)), some (22, true)⟩,
      ⟨some 26, .pick (.t 22) (.t 25) (.c (.bool false)), none⟩,
      ⟨some 27, .mov (.t 26), none⟩,
      ⟨some 28, .mov (.t 0), some (27, true)⟩,
      ⟨some 29, .bin .neq (.t 28) (.c (.str [101])), some (27, true)⟩,
      ⟨some 30, .pick (.t 27) (.t 29) (.c (.bool false)), none⟩,
      ⟨some 2, .mov (.t 30), none⟩]) (.ret)

/-- sealring/sealringref54.rightName : 104 -/
def sealringref54_rightName_b : AC :=
  .seq (.reg false [
      ⟨some 2, .mov (.c (.bool false)), none⟩]) (.seq (.seq (.reg false [
      ⟨some 3, .mov (.c (.int .i64 0)), none⟩]) (.block 0 (.loop (sealringref54_rightName_l0)))) (sealringref54_rightName_r0))

def sealringref54_rightName : AFun := { nparams := 1, ntmps := 31, res := [.tmp 2], keep := false, body := sealringref54_rightName_b }
theorem sealringref54_rightName_body : sealringref54_rightName.body = sealringref54_rightName_b := rfl
theorem sealringref54_rightName_res : sealringref54_rightName.res = [.tmp 2] := rfl
theorem sealringref54_rightName_keep : sealringref54_rightName.keep = false := rfl

/-- sealring/sealringref54.EpochKey : 105 -/
def sealringref54_EpochKey_b : AC :=
  .seq (.reg false [
      ⟨some 4, .alloc [.int .i64 0, .str [], .int .i64 0, .sl true 4 []], none⟩]) (.seq (.reg false [
      ⟨some 5, .mov (.t 0), none⟩,
      ⟨some 6, .bin .add (.t 5) (.c (.str [35])), none⟩,
      ⟨some 7, .mov (.t 1), none⟩,
      ⟨some 8, .call 106 [.t 7], none⟩,
      ⟨some 9, .bin .add (.t 6) (.t 8), none⟩,
      ⟨some 10, .call 107 [.t 9, .c (.int .i64 3)], none⟩,
      ⟨none, .stf 4 0 4 (.t 10), none⟩]) (.ret))

def sealringref54_EpochKey : AFun := { nparams := 2, ntmps := 11, res := [.cell 4 4 true], keep := false, body := sealringref54_EpochKey_b }
theorem sealringref54_EpochKey_body : sealringref54_EpochKey.body = sealringref54_EpochKey_b := rfl
theorem sealringref54_EpochKey_res : sealringref54_EpochKey.res = [.cell 4 4 true] := rfl
theorem sealringref54_EpochKey_keep : sealringref54_EpochKey.keep = false := rfl

/-- sealring/sealringref54.digits : 106 -/
def sealringref54_digits_b : AC :=
  .seq (.reg false [
      ⟨some 2, .mov (.c (.str [])), none⟩]) (.seq (.seq (.reg false [
      ⟨some 3, .mov (.t 0), none⟩,
      ⟨some 4, .bin .lss (.t 3) (.c (.int .i64 10)), none⟩]) (.cond (.t 4) (.seq (.reg false [
      ⟨some 5, .mov (.t 0), none⟩,
      ⟨some 6, .mov (.t 0), none⟩,
      ⟨some 7, .bin .add (.t 6) (.c (.int .i64 1)), none⟩,
      ⟨some 8, .slcs (.c (.str [48, 49, 50, 51, 52, 53, 54, 55, 56, 57])) (some (.t 5)) (some (.t 7)), none⟩,
      ⟨some 2, .mov (.t 8), none⟩]) (.ret)) (.skip))) (.seq (.reg false [
      ⟨some 9, .mov (.t 0), none⟩,
      ⟨some 10, .bin .quo (.t 9) (.c (.int .i64 10)), none⟩,
      ⟨some 11, .call 106 [.t 10], none⟩,
      ⟨some 12, .mov (.t 0), none⟩,
      ⟨some 13, .bin .rem (.t 12) (.c (.int .i64 10)), none⟩,
      ⟨some 14, .call 106 [.t 13], none⟩,
      ⟨some 15, .bin .add (.t 11) (.t 14), none⟩,
      ⟨some 2, .mov (.t 15), none⟩]) (.ret)))

def sealringref54_digits : AFun := { nparams := 1, ntmps := 16, res := [.tmp 2], keep := false, body := sealringref54_digits_b }
theorem sealringref54_digits_body : sealringref54_digits.body = sealringref54_digits_b := rfl
theorem sealringref54_digits_res : sealringref54_digits.res = [.tmp 2] := rfl
theorem sealringref54_digits_keep : sealringref54_digits.keep = false := rfl

/-- sealring/sealringref01.Atom : 107 -/
def sealringref01_Atom_b : AC :=
  .seq (.reg false [
      ⟨some 4, .alloc [.int .i64 0, .str [], .int .i64 0, .sl true 4 []], none⟩]) (.seq (.reg false [
      ⟨some 5, .mov (.t 0), none⟩,
      ⟨some 6, .mov (.t 1), none⟩,
      ⟨some 7, .mkst [.int .i64 0, .str [], .int .i64 0, .sl true 4 []] [(0, 1, .c (.int .i64 2)), (1, 1, .t 5), (2, 1, .t 6)], none⟩,
      ⟨none, .stf 4 0 4 (.t 7), none⟩]) (.ret))

def sealringref01_Atom : AFun := { nparams := 2, ntmps := 8, res := [.cell 4 4 true], keep := false, body := sealringref01_Atom_b }
theorem sealringref01_Atom_body : sealringref01_Atom.body = sealringref01_Atom_b := rfl
theorem sealringref01_Atom_res : sealringref01_Atom.res = [.cell 4 4 true] := rfl
theorem sealringref01_Atom_keep : sealringref01_Atom.keep = false := rfl

def sealringref54_Same_l0 : AC :=
  .seq (.seq (.reg false [
      ⟨some 58, .mov (.t 5), none⟩,
      ⟨some 59, .fad 2 2, none⟩,
      ⟨some 60, .ldf 2 2 1 false, none⟩,
      ⟨some 61, .lenl (.t 60), none⟩,
      ⟨some 62, .bin .lss (.t 58) (.t 61), none⟩]) (.cond (.t 62) (.skip) (.exit 0))) (.seq (.block 1 (.seq (.reg true [
      ⟨some 65, .fad 2 2, none⟩,
      ⟨some 66, .ldf 2 2 1 false, none⟩,
      ⟨some 67, .mov (.t 5), none⟩,
      ⟨some 68, .idxa 6 (.t 66) (.t 67), none⟩,
      ⟨some 69, .fadr 68 0, none⟩,
      ⟨some 70, .ld 69 1 false, none⟩,
      ⟨some 71, .fad 3 2, none⟩,
      ⟨some 72, .ldf 3 2 1 false, none⟩,
      ⟨some 73, .mov (.t 5), none⟩,
      ⟨some 74, .idxa 6 (.t 72) (.t 73), none⟩,
      ⟨some 75, .fadr 74 0, none⟩,
      ⟨some 76, .ld 75 1 false, none⟩,
      ⟨some 77, .bin .neq (.t 70) (.t 76), none⟩,
      ⟨some 78, .mov (.t 77), none⟩,
      ⟨some 79, .fad 2 2, some (78, false)⟩,
      ⟨some 80, .ldf 2 2 1 false, some (78, false)⟩,
      ⟨some 81, .mov (.t 5), some (78, false)⟩,
      ⟨some 82, .idxa 6 (.t 80) (.t 81), some (78, false)⟩,
      ⟨some 83, .fadr 82 1, some (78, false)⟩,
      ⟨some 84, .ld 83 1 false, some (78, false)⟩,
      ⟨some 85, .fad 3 2, some (78, false)⟩,
      ⟨some 86, .ldf 3 2 1 false, some (78, false)⟩,
      ⟨some 87, .mov (.t 5), some (78, false)⟩,
      ⟨some 88, .idxa 6 (.t 86) (.t 87), some (78, false)⟩,
      ⟨some 89, .fadr 88 1, some (78, false)⟩,
      ⟨some 90, .ld 89 1 false, some (78, false)⟩,
      ⟨some 91, .bin .neq (.t 84) (.t 90), some (78, false)⟩,
      ⟨some 92, .pick (.t 78) (.c (.bool true)) (.t 91), none⟩,
      ⟨some 93, .mov (.t 92), none⟩,
      ⟨some 94, .fad 2 2, some (93, false)⟩,
      ⟨some 95, .ldf 2 2 1 false, some (93, false)⟩,
      ⟨some 96, .mov (.t 5), some (93, false)⟩,
      ⟨some 97, .idxa 6 (.t 95) (.t 96), some (93, false)⟩,
      ⟨some 98, .fadr 97 2, some (93, false)⟩,
      ⟨some 99, .ld 98 4 true, some (93, false)⟩,
      ⟨some 100, .fad 3 2, some (93, false)⟩,
      ⟨some 101, .ldf 3 2 1 false, some (93, false)⟩,
      ⟨some 102, .mov (.t 5), some (93, false)⟩,
      ⟨some 103, .idxa 6 (.t 101) (.t 102), some (93, false)⟩,
      ⟨some 104, .fadr 103 2, some (93, false)⟩,
      ⟨some 105, .ld 104 4 true, some (93, false)⟩,
      ⟨some 106, .call 89 [.t 99, .t 105], some (93, false)⟩,
      ⟨some 107, .un .not (.t 106), some (93, false)⟩,
      ⟨some 108, .pick (.t 93) (.c (.bool true)) (.t 107), none⟩]) (.cond (.t 108) (.seq (.reg false [
      ⟨some 4, .mov (.c (.bool false)), none⟩]) (.ret)) (.skip)))) (.reg false [
      ⟨some 63, .mov (.t 5), none⟩,
      ⟨some 64, .bin .add (.t 63) (.c (.int .i64 1)), none⟩,
      ⟨some 5, .mov (.t 64), none⟩]))

def sealringref54_Same_l1 : AC :=
  .seq (.seq (.reg false [
      ⟨some 109, .mov (.t 6), none⟩,
      ⟨some 110, .fad 2 4, none⟩,
      ⟨some 111, .ldf 2 4 1 false, none⟩,
      ⟨some 112, .lenl (.t 111), none⟩,
      ⟨some 113, .bin .lss (.t 109) (.t 112), none⟩]) (.cond (.t 113) (.skip) (.exit 2))) (.seq (.block 3 (.seq (.reg true [
      ⟨some 116, .fad 2 4, none⟩,
      ⟨some 117, .ldf 2 4 1 false, none⟩,
      ⟨some 118, .mov (.t 6), none⟩,
      ⟨some 119, .idxa 2 (.t 117) (.t 118), none⟩,
      ⟨some 120, .ld 119 2 true, none⟩,
      ⟨some 121, .fad 3 4, none⟩,
      ⟨some 122, .ldf 3 4 1 false, none⟩,
      ⟨some 123, .mov (.t 6), none⟩,
      ⟨some 124, .idxa 2 (.t 122) (.t 123), none⟩,
      ⟨some 125, .ld 124 2 true, none⟩,
      ⟨some 126, .eqa true [0, 0] (.t 120) (.t 125), none⟩]) (.cond (.t 126) (.seq (.reg false [
      ⟨some 4, .mov (.c (.bool false)), none⟩]) (.ret)) (.skip)))) (.reg false [
      ⟨some 114, .mov (.t 6), none⟩,
      ⟨some 115, .bin .add (.t 114) (.c (.int .i64 1)), none⟩,
      ⟨some 6, .mov (.t 115), none⟩]))

def sealringref54_Same_r0 : AC :=
  .seq (.reg false [
      ⟨some 4, .mov (.c (.bool true)), none⟩]) (.ret)

def sealringref54_Same_r1 : AC :=
  .seq (.seq (.reg false [
      ⟨some 6, .mov (.c (.int .i64 0)), none⟩]) (.block 2 (.loop (sealringref54_Same_l1)))) (sealringref54_Same_r0)

/-- sealring/sealringref54.Same : 108 -/
def sealringref54_Same_b : AC :=
  .seq (.reg false [
      ⟨some 2, .box (.t 0), none⟩,
      ⟨some 3, .box (.t 1), none⟩,
      ⟨some 4, .mov (.c (.bool false)), none⟩]) (.seq (.seq (.reg false [
      ⟨some 7, .fad 2 0, none⟩,
      ⟨some 8, .ldf 2 0 1 false, none⟩,
      ⟨some 9, .fad 3 0, none⟩,
      ⟨some 10, .ldf 3 0 1 false, none⟩,
      ⟨some 11, .bin .neq (.t 8) (.t 10), none⟩,
      ⟨some 12, .mov (.t 11), none⟩,
      ⟨some 13, .fad 2 1, some (12, false)⟩,
      ⟨some 14, .ldf 2 1 1 false, some (12, false)⟩,
      ⟨some 15, .fad 3 1, some (12, false)⟩,
      ⟨some 16, .ldf 3 1 1 false, some (12, false)⟩,
      ⟨some 17, .bin .neq (.t 14) (.t 16), some (12, false)⟩,
      ⟨some 18, .pick (.t 12) (.c (.bool true)) (.t 17), none⟩,
      ⟨some 19, .mov (.t 18), none⟩,
      ⟨some 20, .fad 2 3, some (19, false)⟩,
      ⟨some 21, .ldf 2 3 1 false, some (19, false)⟩,
      ⟨some 22, .fad 3 3, some (19, false)⟩,
      ⟨some 23, .ldf 3 3 1 false, some (19, false)⟩,
      ⟨some 24, .bin .neq (.t 21) (.t 23), some (19, false)⟩,
      ⟨some 25, .pick (.t 19) (.c (.bool true)) (.t 24), none⟩,
      ⟨some 26, .mov (.t 25), none⟩,
      ⟨some 27, .fad 2 5, some (26, false)⟩,
      ⟨some 28, .ldf 2 5 1 false, some (26, false)⟩,
      ⟨some 29, .fad 3 5, some (26, false)⟩,
      ⟨some 30, .ldf 3 5 1 false, some (26, false)⟩,
      ⟨some 31, .bin .neq (.t 28) (.t 30), some (26, false)⟩,
      ⟨some 32, .pick (.t 26) (.c (.bool true)) (.t 31), none⟩,
      ⟨some 33, .mov (.t 32), none⟩,
      ⟨some 34, .fad 2 6, some (33, false)⟩,
      ⟨some 35, .ldf 2 6 1 false, some (33, false)⟩,
      ⟨some 36, .fad 3 6, some (33, false)⟩,
      ⟨some 37, .ldf 3 6 1 false, some (33, false)⟩,
      ⟨some 38, .bin .neq (.t 35) (.t 37), some (33, false)⟩,
      ⟨some 39, .pick (.t 33) (.c (.bool true)) (.t 38), none⟩,
      ⟨some 40, .mov (.t 39), none⟩,
      ⟨some 41, .fad 2 2, some (40, false)⟩,
      ⟨some 42, .ldf 2 2 1 false, some (40, false)⟩,
      ⟨some 43, .lenl (.t 42), some (40, false)⟩,
      ⟨some 44, .fad 3 2, some (40, false)⟩,
      ⟨some 45, .ldf 3 2 1 false, some (40, false)⟩,
      ⟨some 46, .lenl (.t 45), some (40, false)⟩,
      ⟨some 47, .bin .neq (.t 43) (.t 46), some (40, false)⟩,
      ⟨some 48, .pick (.t 40) (.c (.bool true)) (.t 47), none⟩,
      ⟨some 49, .mov (.t 48), none⟩,
      ⟨some 50, .fad 2 4, some (49, false)⟩,
      ⟨some 51, .ldf 2 4 1 false, some (49, false)⟩,
      ⟨some 52, .lenl (.t 51), some (49, false)⟩,
      ⟨some 53, .fad 3 4, some (49, false)⟩,
      ⟨some 54, .ldf 3 4 1 false, some (49, false)⟩,
      ⟨some 55, .lenl (.t 54), some (49, false)⟩,
      ⟨some 56, .bin .neq (.t 52) (.t 55), some (49, false)⟩,
      ⟨some 57, .pick (.t 49) (.c (.bool true)) (.t 56), none⟩]) (.cond (.t 57) (.seq (.reg false [
      ⟨some 4, .mov (.c (.bool false)), none⟩]) (.ret)) (.skip))) (.seq (.seq (.reg false [
      ⟨some 5, .mov (.c (.int .i64 0)), none⟩]) (.block 0 (.loop (sealringref54_Same_l0)))) (sealringref54_Same_r1)))

def sealringref54_Same : AFun := { nparams := 2, ntmps := 127, res := [.tmp 4], keep := false, body := sealringref54_Same_b }
theorem sealringref54_Same_body : sealringref54_Same.body = sealringref54_Same_b := rfl
theorem sealringref54_Same_res : sealringref54_Same.res = [.tmp 4] := rfl
theorem sealringref54_Same_keep : sealringref54_Same.keep = false := rfl

def sealringref54_Valid_l0 : AC :=
  .seq (.seq (.reg false [
      ⟨some 58, .mov (.t 3), none⟩,
      ⟨some 59, .fad 1 4, none⟩,
      ⟨some 60, .ldf 1 4 1 false, none⟩,
      ⟨some 61, .lenl (.t 60), none⟩,
      ⟨some 62, .bin .lss (.t 58) (.t 61), none⟩]) (.cond (.t 62) (.skip) (.exit 0))) (.seq (.block 1 (.seq (.reg false [
      ⟨some 65, .fad 1 4, none⟩,
      ⟨some 66, .ldf 1 4 1 false, none⟩,
      ⟨some 67, .mov (.t 3), none⟩,
      ⟨some 68, .idxa 2 (.t 66) (.t 67), none⟩,
      ⟨some 69, .ld 68 2 true, none⟩,
      ⟨some 4, .alloc [.int .i64 0, .int .i64 0], none⟩,
      ⟨none, .stf 4 0 2 (.t 69), none⟩]) (.seq (.reg true [
      ⟨some 70, .fad 4 0, none⟩,
      ⟨some 71, .ldf 4 0 1 false, none⟩,
      ⟨some 72, .bin .lss (.t 71) (.c (.int .i64 0)), none⟩,
      ⟨some 73, .mov (.t 72), none⟩,
      ⟨some 74, .fad 4 0, some (73, false)⟩,
      ⟨some 75, .ldf 4 0 1 false, some (73, false)⟩,
      ⟨some 76, .fad 1 3, some (73, false)⟩,
      ⟨some 77, .ldf 1 3 1 false, some (73, false)⟩,
      ⟨some 78, .bin .geq (.t 75) (.t 77), some (73, false)⟩,
      ⟨some 79, .pick (.t 73) (.c (.bool true)) (.t 78), none⟩,
      ⟨some 80, .mov (.t 79), none⟩,
      ⟨some 81, .fad 4 1, some (80, false)⟩,
      ⟨some 82, .ldf 4 1 1 false, some (80, false)⟩,
      ⟨some 83, .bin .lss (.t 82) (.c (.int .i64 0)), some (80, false)⟩,
      ⟨some 84, .pick (.t 80) (.c (.bool true)) (.t 83), none⟩,
      ⟨some 85, .mov (.t 84), none⟩,
      ⟨some 86, .mov (.t 3), some (85, false)⟩,
      ⟨some 87, .bin .gtr (.t 86) (.c (.int .i64 0)), some (85, false)⟩,
      ⟨some 88, .mov (.t 87), some (85, false)⟩,
      ⟨some 89, .fad 4 0, some (88, true)⟩,
      ⟨some 90, .ldf 4 0 1 false, some (88, true)⟩,
      ⟨some 91, .fad 1 4, some (88, true)⟩,
      ⟨some 92, .ldf 1 4 1 false, some (88, true)⟩,
      ⟨some 93, .mov (.t 3), some (88, true)⟩,
      ⟨some 94, .bin .sub (.t 93) (.c (.int .i64 1)), some (88, true)⟩,
      ⟨some 95, .idxa 2 (.t 92) (.t 94), some (88, true)⟩,
      ⟨some 96, .fadr 95 0, some (88, true)⟩,
      ⟨some 97, .ld 96 1 false, some (88, true)⟩,
      ⟨some 98, .bin .leq (.t 90) (.t 97), some (88, true)⟩,
      ⟨some 99, .pick (.t 88) (.t 98) (.c (.bool false)), some (85, false)⟩,
      ⟨some 100, .pick (.t 85) (.c (.bool true)) (.t 99), none⟩]) (.cond (.t 100) (.seq (.reg false [
      ⟨some 2, .mov (.c (.int .i64 1)), none⟩]) (.ret)) (.skip))))) (.reg false [
      ⟨some 63, .mov (.t 3), none⟩,
      ⟨some 64, .bin .add (.t 63) (.c (.int .i64 1)), none⟩,
      ⟨some 3, .mov (.t 64), none⟩]))

def sealringref54_Valid_r0 : AC :=
  .seq (.reg false [
      ⟨some 2, .mov (.c (.int .i64 0)), none⟩]) (.ret)

/-- sealring/sealringref54.Valid : 109 -/
def sealringref54_Valid_b : AC :=
  .seq (.reg false [
      ⟨some 1, .box (.t 0), none⟩,
      ⟨some 2, .mov (.c (.int .i64 0)), none⟩]) (.seq (.seq (.reg false [
      ⟨some 5, .fad 1 0, none⟩,
      ⟨some 6, .ldf 1 0 1 false, none⟩,
      ⟨some 7, .call 104 [.t 6], none⟩,
      ⟨some 8, .un .not (.t 7), none⟩,
      ⟨some 9, .mov (.t 8), none⟩,
      ⟨some 10, .fad 1 5, some (9, false)⟩,
      ⟨some 11, .ldf 1 5 1 false, some (9, false)⟩,
      ⟨some 12, .bin .lss (.t 11) (.c (.int .i64 1)), some (9, false)⟩,
      ⟨some 13, .pick (.t 9) (.c (.bool true)) (.t 12), none⟩,
      ⟨some 14, .mov (.t 13), none⟩,
      ⟨some 15, .fad 1 5, some (14, false)⟩,
      ⟨some 16, .ldf 1 5 1 false, some (14, false)⟩,
      ⟨some 17, .bin .gtr (.t 16) (.c (.int .i64 1000)), some (14, false)⟩,
      ⟨some 18, .pick (.t 14) (.c (.bool true)) (.t 17), none⟩,
      ⟨some 19, .mov (.t 18), none⟩,
      ⟨some 20, .fad 1 1, some (19, false)⟩,
      ⟨some 21, .ldf 1 1 1 false, some (19, false)⟩,
      ⟨some 22, .bin .lss (.t 21) (.c (.int .i64 0)), some (19, false)⟩,
      ⟨some 23, .pick (.t 19) (.c (.bool true)) (.t 22), none⟩,
      ⟨some 24, .mov (.t 23), none⟩,
      ⟨some 25, .fad 1 1, some (24, false)⟩,
      ⟨some 26, .ldf 1 1 1 false, some (24, false)⟩,
      ⟨some 27, .bin .gtr (.t 26) (.c (.int .i64 10000)), some (24, false)⟩,
      ⟨some 28, .pick (.t 24) (.c (.bool true)) (.t 27), none⟩,
      ⟨some 29, .mov (.t 28), none⟩,
      ⟨some 30, .fad 1 3, some (29, false)⟩,
      ⟨some 31, .ldf 1 3 1 false, some (29, false)⟩,
      ⟨some 32, .bin .lss (.t 31) (.c (.int .i64 0)), some (29, false)⟩,
      ⟨some 33, .pick (.t 29) (.c (.bool true)) (.t 32), none⟩,
      ⟨some 34, .mov (.t 33), none⟩,
      ⟨some 35, .fad 1 3, some (34, false)⟩,
      ⟨some 36, .ldf 1 3 1 false, some (34, false)⟩,
      ⟨some 37, .bin .gtr (.t 36) (.c (.int .i64 10000)), some (34, false)⟩,
      ⟨some 38, .pick (.t 34) (.c (.bool true)) (.t 37), none⟩,
      ⟨some 39, .mov (.t 38), none⟩,
      ⟨some 40, .fad 1 6, some (39, false)⟩,
      ⟨some 41, .ldf 1 6 1 false, some (39, false)⟩,
      ⟨some 42, .bin .lss (.t 41) (.c (.int .i64 0)), some (39, false)⟩,
      ⟨some 43, .pick (.t 39) (.c (.bool true)) (.t 42), none⟩,
      ⟨some 44, .mov (.t 43), none⟩,
      ⟨some 45, .fad 1 6, some (44, false)⟩,
      ⟨some 46, .ldf 1 6 1 false, some (44, false)⟩,
      ⟨some 47, .bin .gtr (.t 46) (.c (.int .i64 100000)), some (44, false)⟩,
      ⟨some 48, .pick (.t 44) (.c (.bool true)) (.t 47), none⟩,
      ⟨some 49, .mov (.t 48), none⟩,
      ⟨some 50, .fad 1 4, some (49, false)⟩,
      ⟨some 51, .ldf 1 4 1 false, some (49, false)⟩,
      ⟨some 52, .lenl (.t 51), some (49, false)⟩,
      ⟨some 53, .bin .gtr (.t 52) (.c (.int .i64 200)), some (49, false)⟩,
      ⟨some 54, .pick (.t 49) (.c (.bool true)) (.t 53), none⟩]) (.cond (.t 54) (.seq (.reg false [
      ⟨some 2, .mov (.c (.int .i64 1)), none⟩]) (.ret)) (.skip))) (.seq (.seq (.reg false [
      ⟨some 55, .ldf 1 0 7 true, none⟩,
      ⟨some 56, .call 110 [.t 55], none⟩,
      ⟨some 57, .un .not (.t 56), none⟩]) (.cond (.t 57) (.seq (.reg false [
      ⟨some 2, .mov (.c (.int .i64 1)), none⟩]) (.ret)) (.skip))) (.seq (.seq (.reg false [
      ⟨some 3, .mov (.c (.int .i64 0)), none⟩]) (.block 0 (.loop (sealringref54_Valid_l0)))) (sealringref54_Valid_r0))))

def sealringref54_Valid : AFun := { nparams := 1, ntmps := 101, res := [.tmp 2], keep := false, body := sealringref54_Valid_b }
theorem sealringref54_Valid_body : sealringref54_Valid.body = sealringref54_Valid_b := rfl
theorem sealringref54_Valid_res : sealringref54_Valid.res = [.tmp 2] := rfl
theorem sealringref54_Valid_keep : sealringref54_Valid.keep = false := rfl

def sealringref54_rightKeys_l0 : AC :=
  .seq (.seq (.reg false [
      ⟨some 45, .mov (.t 4), none⟩,
      ⟨some 46, .mov (.t 3), none⟩,
      ⟨some 47, .bin .lss (.t 45) (.t 46), none⟩]) (.cond (.t 47) (.skip) (.exit 0))) (.seq (.block 1 (.seq (.reg false [
      ⟨some 50, .fad 1 2, none⟩,
      ⟨some 51, .ldf 1 2 1 false, none⟩,
      ⟨some 52, .mov (.t 4), none⟩,
      ⟨some 53, .idxa 6 (.t 51) (.t 52), none⟩,
      ⟨some 54, .ld 53 6 true, none⟩,
      ⟨some 5, .alloc [.int .i64 0, .int .i64 0, .int .i64 0, .str [], .int .i64 0, .sl true 4 []], none⟩,
      ⟨none, .stf 5 0 6 (.t 54), none⟩]) (.seq (.seq (.reg true [
      ⟨some 55, .fad 5 0, none⟩,
      ⟨some 56, .ldf 5 0 1 false, none⟩,
      ⟨some 57, .fad 1 1, none⟩,
      ⟨some 58, .ldf 1 1 1 false, none⟩,
      ⟨some 59, .mov (.t 3), none⟩,
      ⟨some 60, .bin .sub (.t 58) (.t 59), none⟩,
      ⟨some 61, .bin .add (.t 60) (.c (.int .i64 1)), none⟩,
      ⟨some 62, .mov (.t 4), none⟩,
      ⟨some 63, .bin .add (.t 61) (.t 62), none⟩,
      ⟨some 64, .bin .neq (.t 56) (.t 63), none⟩,
      ⟨some 65, .mov (.t 64), none⟩,
      ⟨some 66, .fad 5 2, some (65, false)⟩,
      ⟨some 67, .ldf 5 2 4 true, some (65, false)⟩,
      ⟨some 68, .fad 1 0, some (65, false)⟩,
      ⟨some 69, .ldf 1 0 1 false, some (65, false)⟩,
      ⟨some 70, .fad 5 0, some (65, false)⟩,
      ⟨some 71, .ldf 5 0 1 false, some (65, false)⟩,
      ⟨some 72, .call 105 [.t 69, .t 71], some (65, false)⟩,
      ⟨some 73, .call 89 [.t 67, .t 72], some (65, false)⟩,
      ⟨some 74, .un .not (.t 73), some (65, false)⟩,
      ⟨some 75, .pick (.t 65) (.c (.bool true)) (.t 74), none⟩]) (.cond (.t 75) (.seq (.reg false [
      ⟨some 2, .mov (.c (.bool false)), none⟩]) (.ret)) (.skip))) (.seq (.reg true [
      ⟨some 76, .mov (.t 4), none⟩,
      ⟨some 77, .mov (.t 3), none⟩,
      ⟨some 78, .bin .sub (.t 77) (.c (.int .i64 1)), none⟩,
      ⟨some 79, .bin .lss (.t 76) (.t 78), none⟩,
      ⟨some 80, .mov (.t 79), none⟩,
      ⟨some 81, .fad 5 1, some (80, true)⟩,
      ⟨some 82, .ldf 5 1 1 false, some (80, true)⟩,
      ⟨some 83, .bin .lss (.t 82) (.c (.int .i64 1)), some (80, true)⟩,
      ⟨some 84, .mov (.t 83), some (80, true)⟩,
      ⟨some 85, .mov (.t 4), some (84, false)⟩,
      ⟨some 86, .bin .gtr (.t 85) (.c (.int .i64 0)), some (84, false)⟩,
      ⟨some 87, .mov (.t 86), some (84, false)⟩,
      ⟨some 88, .fad 5 1, some (87, true)⟩,
      ⟨some 89, .ldf 5 1 1 false, some (87, true)⟩,
      ⟨some 90, .fad 1 2, some (87, true)⟩,
      ⟨some 91, .ldf 1 2 1 false, some (87, true)⟩,
      ⟨some 92, .mov (.t 4), some (87, true)⟩,
      ⟨some 93, .bin .sub (.t 92) (.c (.int .i64 1)), some (87, true)⟩,
      ⟨some 94, .idxa 6 (.t 91) (.t 93), some (87, true)⟩,
      ⟨some 95, .fadr 94 1, some (87, true)⟩,
      ⟨some 96, .ld 95 1 false, some (87, true)⟩,
      ⟨some 97, .bin .lss (.t 89) (.t 96), some (87, true)⟩,
      ⟨some 98, .pick (.t 87) (.t 97) (.c (.bool false)), some (84, false)⟩,
      ⟨some 99, .pick (.t 84) (.c (.bool true)) (.t 98), some (80, true)⟩,
      ⟨some 100, .pick (.t 80) (.t 99) (.c (.bool false)), none⟩]) (.cond (.t 100) (.seq (.reg false [
      ⟨some 2, .mov (.c (.bool false)), none⟩]) (.ret)) (.skip)))))) (.reg false [
      ⟨some 48, .mov (.t 4), none⟩,
      ⟨some 49, .bin .add (.t 48) (.c (.int .i64 1)), none⟩,
      ⟨some 4, .mov (.t 49), none⟩]))

def sealringref54_rightKeys_r0 : AC :=
  .seq (.reg false [
      ⟨some 2, .mov (.c (.bool true)), none⟩]) (.ret)

/-- sealring/sealringref54.rightKeys : 110 -/
def sealringref54_rightKeys_b : AC :=
  .seq (.reg false [
      ⟨some 1, .box (.t 0), none⟩,
      ⟨some 2, .mov (.c (.bool false)), none⟩]) (.seq (.reg false [
      ⟨some 6, .fad 1 2, none⟩,
      ⟨some 7, .ldf 1 2 1 false, none⟩,
      ⟨some 8, .lenl (.t 7), none⟩,
      ⟨some 3, .mov (.t 8), none⟩]) (.seq (.seq (.reg true [
      ⟨some 9, .mov (.t 3), none⟩,
      ⟨some 10, .bin .lss (.t 9) (.c (.int .i64 1)), none⟩,
      ⟨some 11, .mov (.t 10), none⟩,
      ⟨some 12, .mov (.t 3), some (11, false)⟩,
      ⟨some 13, .bin .gtr (.t 12) (.c (.int .i64 8)), some (11, false)⟩,
      ⟨some 14, .pick (.t 11) (.c (.bool true)) (.t 13), none⟩,
      ⟨some 15, .mov (.t 14), none⟩,
      ⟨some 16, .fad 1 2, some (15, false)⟩,
      ⟨some 17, .ldf 1 2 1 false, some (15, false)⟩,
      ⟨some 18, .mov (.t 3), some (15, false)⟩,
      ⟨some 19, .bin .sub (.t 18) (.c (.int .i64 1)), some (15, false)⟩,
      ⟨some 20, .idxa 6 (.t 17) (.t 19), some (15, false)⟩,
      ⟨some 21, .fadr 20 0, some (15, false)⟩,
      ⟨some 22, .ld 21 1 false, some (15, false)⟩,
      ⟨some 23, .fad 1 1, some (15, false)⟩,
      ⟨some 24, .ldf 1 1 1 false, some (15, false)⟩,
      ⟨some 25, .bin .neq (.t 22) (.t 24), some (15, false)⟩,
      ⟨some 26, .pick (.t 15) (.c (.bool true)) (.t 25), none⟩,
      ⟨some 27, .mov (.t 26), none⟩,
      ⟨some 28, .fad 1 1, some (27, false)⟩,
      ⟨some 29, .ldf 1 1 1 false, some (27, false)⟩,
      ⟨some 30, .mov (.t 3), some (27, false)⟩,
      ⟨some 31, .bin .sub (.t 29) (.t 30), some (27, false)⟩,
      ⟨some 32, .bin .add (.t 31) (.c (.int .i64 1)), some (27, false)⟩,
      ⟨some 33, .bin .lss (.t 32) (.c (.int .i64 0)), some (27, false)⟩,
      ⟨some 34, .pick (.t 27) (.c (.bool true)) (.t 33), none⟩,
      ⟨some 35, .mov (.t 34), none⟩,
      ⟨some 36, .fad 1 2, some (35, false)⟩,
      ⟨some 37, .ldf 1 2 1 false, some (35, false)⟩,
      ⟨some 38, .mov (.t 3), some (35, false)⟩,
      ⟨some 39, .bin .sub (.t 38) (.c (.int .i64 1)), some (35, false)⟩,
      ⟨some 40, .idxa 6 (.t 37) (.t 39), some (35, false)⟩,
      ⟨some 41, .fadr 40 1, some (35, false)⟩,
      ⟨some 42, .ld 41 1 false, some (35, false)⟩,
      ⟨some 43, .bin .neq (.t 42) (.c (.int .i64 0)), some (35, false)⟩,
      ⟨some 44, .pick (.t 35) (.c (.bool true)) (.t 43), none⟩]) (.cond (.t 44) (.seq (.reg false [
      ⟨some 2, .mov (.c (.bool false)), none⟩]) (.ret)) (.skip))) (.seq (.seq (.reg false [
      ⟨some 4, .mov (.c (.int .i64 0)), none⟩]) (.block 0 (.loop (sealringref54_rightKeys_l0)))) (sealringref54_rightKeys_r0))))

def sealringref54_rightKeys : AFun := { nparams := 1, ntmps := 101, res := [.tmp 2], keep := false, body := sealringref54_rightKeys_b }
theorem sealringref54_rightKeys_body : sealringref54_rightKeys.body = sealringref54_rightKeys_b := rfl
theorem sealringref54_rightKeys_res : sealringref54_rightKeys.res = [.tmp 2] := rfl
theorem sealringref54_rightKeys_keep : sealringref54_rightKeys.keep = false := rfl

def sealringref54_Knows_l0 : AC :=
  .seq (.seq (.reg false [
      ⟨some 8, .mov (.t 4), none⟩,
      ⟨some 9, .fad 1 2, none⟩,
      ⟨some 10, .ldf 1 2 1 false, none⟩,
      ⟨some 11, .lenl (.t 10), none⟩,
      ⟨some 12, .bin .lss (.t 8) (.t 11), none⟩]) (.cond (.t 12) (.skip) (.exit 0))) (.seq (.block 1 (.reg false [
      ⟨some 15, .mvs 3, none⟩,
      ⟨some 16, .fad 1 2, none⟩,
      ⟨some 17, .ldf 1 2 1 false, none⟩,
      ⟨some 18, .mov (.t 4), none⟩,
      ⟨some 19, .idxa 6 (.t 17) (.t 18), none⟩,
      ⟨some 20, .fadr 19 2, none⟩,
      ⟨some 21, .ld 20 4 true, none⟩,
      ⟨some 22, .mksl 4 [.t 21], none⟩,
      ⟨some 23, .app 56 4 (.t 15) (.t 22), none⟩,
      ⟨some 3, .mvs 23, none⟩])) (.reg false [
      ⟨some 13, .mov (.t 4), none⟩,
      ⟨some 14, .bin .add (.t 13) (.c (.int .i64 1)), none⟩,
      ⟨some 4, .mov (.t 14), none⟩]))

def sealringref54_Knows_r0 : AC :=
  .seq (.reg false [
      ⟨some 24, .mov (.t 3), none⟩,
      ⟨some 2, .mvs 24, none⟩]) (.ret)

/-- sealring/sealringref54.Knows : 111 -/
def sealringref54_Knows_b : AC :=
  .seq (.reg false [
      ⟨some 1, .box (.t 0), none⟩,
      ⟨some 2, .mov (.c (.sl true 4 [])), none⟩]) (.seq (.seq (.reg false [
      ⟨some 5, .ldf 1 0 7 true, none⟩,
      ⟨some 6, .call 109 [.t 5], none⟩,
      ⟨some 7, .bin .neq (.t 6) (.c (.int .i64 0)), none⟩]) (.cond (.t 7) (.seq (.reg false [
      ⟨some 2, .mov (.c (.sl true 4 [])), none⟩]) (.ret)) (.skip))) (.seq (.reg false [
      ⟨some 3, .mov (.c (.sl true 4 [])), none⟩]) (.seq (.seq (.reg false [
      ⟨some 4, .mov (.c (.int .i64 0)), none⟩]) (.block 0 (.loop (sealringref54_Knows_l0)))) (sealringref54_Knows_r0))))

def sealringref54_Knows : AFun := { nparams := 1, ntmps := 25, res := [.tmp 2], keep := false, body := sealringref54_Knows_b }
theorem sealringref54_Knows_body : sealringref54_Knows.body = sealringref54_Knows_b := rfl
theorem sealringref54_Knows_res : sealringref54_Knows.res = [.tmp 2] := rfl
theorem sealringref54_Knows_keep : sealringref54_Knows.keep = false := rfl

def sealringref01_Lists_l0 : AC :=
  .seq (.seq (.reg false [
      ⟨some 11, .mov (.t 5), none⟩,
      ⟨some 12, .mov (.t 0), none⟩,
      ⟨some 13, .lenl (.t 12), none⟩,
      ⟨some 14, .bin .lss (.t 11) (.t 13), none⟩]) (.cond (.t 14) (.skip) (.exit 0))) (.seq (.block 1 (.seq (.reg true [
      ⟨some 17, .mov (.t 0), none⟩,
      ⟨some 18, .mov (.t 5), none⟩,
      ⟨some 19, .idxa 4 (.t 17) (.t 18), none⟩,
      ⟨some 20, .ld 19 4 true, none⟩,
      ⟨some 21, .mov (.t 1), none⟩,
      ⟨some 22, .mov (.t 5), none⟩,
      ⟨some 23, .idxa 4 (.t 21) (.t 22), none⟩,
      ⟨some 24, .ld 23 4 true, none⟩,
      ⟨some 25, .call 89 [.t 20, .t 24], none⟩,
      ⟨some 26, .un .not (.t 25), none⟩]) (.cond (.t 26) (.seq (.reg false [
      ⟨some 4, .mov (.c (.bool false)), none⟩]) (.ret)) (.skip)))) (.reg false [
      ⟨some 15, .mov (.t 5), none⟩,
      ⟨some 16, .bin .add (.t 15) (.c (.int .i64 1)), none⟩,
      ⟨some 5, .mov (.t 16), none⟩]))

def sealringref01_Lists_r0 : AC :=
  .seq (.reg false [
      ⟨some 4, .mov (.c (.bool true)), none⟩]) (.ret)

/-- sealring/sealringref01.Lists : 112 -/
def sealringref01_Lists_b : AC :=
  .seq (.reg false [
      ⟨some 4, .mov (.c (.bool false)), none⟩]) (.seq (.seq (.reg false [
      ⟨some 6, .mov (.t 0), none⟩,
      ⟨some 7, .lenl (.t 6), none⟩,
      ⟨some 8, .mov (.t 1), none⟩,
      ⟨some 9, .lenl (.t 8), none⟩,
      ⟨some 10, .bin .neq (.t 7) (.t 9), none⟩]) (.cond (.t 10) (.seq (.reg false [
      ⟨some 4, .mov (.c (.bool false)), none⟩]) (.ret)) (.skip))) (.seq (.seq (.reg false [
      ⟨some 5, .mov (.c (.int .i64 0)), none⟩]) (.block 0 (.loop (sealringref01_Lists_l0)))) (sealringref01_Lists_r0)))

def sealringref01_Lists : AFun := { nparams := 2, ntmps := 27, res := [.tmp 4], keep := false, body := sealringref01_Lists_b }
theorem sealringref01_Lists_body : sealringref01_Lists.body = sealringref01_Lists_b := rfl
theorem sealringref01_Lists_res : sealringref01_Lists.res = [.tmp 4] := rfl
theorem sealringref01_Lists_keep : sealringref01_Lists.keep = false := rfl

/-- sealring/sealringlaw54.TicketIssue : 113 -/
def sealringlaw54_TicketIssue_b : AC :=
  .seq (.reg false [
      ⟨some 3, .box (.t 0), none⟩,
      ⟨some 6, .mov (.c (.bool false)), none⟩]) (.seq (.seq (.reg false [
      ⟨some 19, .call 1 [], none⟩,
      ⟨some 20, .un .not (.t 19), none⟩,
      ⟨some 21, .mov (.t 20), none⟩,
      ⟨some 22, .ldf 3 0 7 true, some (21, false)⟩,
      ⟨some 23, .call 100 [.t 22], some (21, false)⟩,
      ⟨some 24, .un .not (.t 23), some (21, false)⟩,
      ⟨some 25, .pick (.t 21) (.c (.bool true)) (.t 24), none⟩,
      ⟨some 26, .mov (.t 25), none⟩,
      ⟨some 27, .mov (.t 1), some (26, false)⟩,
      ⟨some 28, .lens (.t 27), some (26, false)⟩,
      ⟨some 29, .bin .gtr (.t 28) (.c (.int .i64 60)), some (26, false)⟩,
      ⟨some 30, .pick (.t 26) (.c (.bool true)) (.t 29), none⟩]) (.cond (.t 30) (.seq (.reg false [
      ⟨some 31, .call 1 [], none⟩,
      ⟨some 6, .mov (.t 31), none⟩]) (.ret)) (.skip))) (.seq (.reg false [
      ⟨some 33, .ldf 3 0 7 true, none⟩,
      ⟨some 34, .call 114 [.t 33], none⟩,
      ⟨some 35, .mov (.t 1), none⟩,
      ⟨some 36, .mov (.t 2), none⟩,
      ⟨some 37, .call 25 [.t 34, .t 35, .t 36], none⟩,
      ⟨some 32, .mov (.t 37), none⟩,
      ⟨some 38, .ext (.t 32) 0, none⟩,
      ⟨some 39, .ext (.t 32) 1, none⟩,
      ⟨some 40, .ext (.t 32) 2, none⟩,
      ⟨some 41, .ext (.t 32) 3, none⟩,
      ⟨some 7, .alloc [.str [], .int .i64 0, .sl true 6 [], .int .i64 0, .sl true 2 [], .int .i64 0, .int .i64 0], none⟩,
      ⟨some 8, .alloc [.int .i64 0, .str [], .int .i64 0, .sl true 4 []], none⟩,
      ⟨some 9, .alloc [.int .i64 0, .str [], .int .i64 0, .sl true 4 []], none⟩,
      ⟨none, .stf 7 0 7 (.t 38), none⟩,
      ⟨none, .stf 8 0 4 (.t 39), none⟩,
      ⟨none, .stf 9 0 4 (.t 40), none⟩,
      ⟨some 10, .mov (.t 41), none⟩]) (.seq (.reg false [
      ⟨some 43, .ldf 3 0 7 true, none⟩,
      ⟨some 44, .mov (.t 1), none⟩,
      ⟨some 45, .mov (.t 2), none⟩,
      ⟨some 46, .call 115 [.t 43, .t 44, .t 45], none⟩,
      ⟨some 42, .mov (.t 46), none⟩,
      ⟨some 47, .ext (.t 42) 0, none⟩,
      ⟨some 48, .ext (.t 42) 1, none⟩,
      ⟨some 49, .ext (.t 42) 2, none⟩,
      ⟨some 50, .ext (.t 42) 3, none⟩,
      ⟨some 11, .alloc [.str [], .int .i64 0, .sl true 6 [], .int .i64 0, .sl true 2 [], .int .i64 0, .int .i64 0], none⟩,
      ⟨some 12, .alloc [.int .i64 0, .str [], .int .i64 0, .sl true 4 []], none⟩,
      ⟨some 13, .alloc [.int .i64 0, .str [], .int .i64 0, .sl true 4 []], none⟩,
      ⟨none, .stf 11 0 7 (.t 47), none⟩,
      ⟨none, .stf 12 0 4 (.t 48), none⟩,
      ⟨none, .stf 13 0 4 (.t 49), none⟩,
      ⟨some 14, .mov (.t 50), none⟩]) (.seq (.reg false [
      ⟨some 52, .ldf 3 0 7 true, none⟩,
      ⟨some 53, .call 114 [.t 52], none⟩,
      ⟨some 54, .mov (.t 2), none⟩,
      ⟨some 55, .call 64 [.t 53, .t 54], none⟩,
      ⟨some 51, .mov (.t 55), none⟩,
      ⟨some 56, .ext (.t 51) 0, none⟩,
      ⟨some 57, .ext (.t 51) 1, none⟩,
      ⟨some 15, .alloc [.str [], .int .i64 0, .sl true 6 [], .int .i64 0, .sl true 2 [], .int .i64 0, .int .i64 0], none⟩,
      ⟨none, .stf 15 0 7 (.t 56), none⟩,
      ⟨some 16, .mov (.t 57), none⟩]) (.seq (.reg false [
      ⟨some 59, .ldf 3 0 7 true, none⟩,
      ⟨some 60, .call 114 [.t 59], none⟩,
      ⟨some 61, .mov (.t 2), none⟩,
      ⟨some 62, .call 121 [.t 60, .t 61], none⟩,
      ⟨some 58, .mov (.t 62), none⟩,
      ⟨some 63, .ext (.t 58) 0, none⟩,
      ⟨some 64, .ext (.t 58) 1, none⟩,
      ⟨some 17, .alloc [.str [], .int .i64 0, .sl true 6 [], .int .i64 0, .sl true 2 [], .int .i64 0, .int .i64 0], none⟩,
      ⟨none, .stf 17 0 7 (.t 63), none⟩,
      ⟨some 18, .mov (.t 64), none⟩]) (.seq (.reg true [
      ⟨some 65, .mov (.t 10), none⟩,
      ⟨some 66, .mov (.t 14), none⟩,
      ⟨some 67, .bin .eql (.t 65) (.t 66), none⟩,
      ⟨some 68, .mov (.t 67), none⟩,
      ⟨some 69, .mov (.t 16), some (68, true)⟩,
      ⟨some 70, .mov (.t 18), some (68, true)⟩,
      ⟨some 71, .bin .eql (.t 69) (.t 70), some (68, true)⟩,
      ⟨some 72, .pick (.t 68) (.t 71) (.c (.bool false)), none⟩,
      ⟨some 73, .mov (.t 72), none⟩,
      ⟨some 74, .ldf 7 0 7 true, some (73, true)⟩,
      ⟨some 75, .ldf 11 0 7 true, some (73, true)⟩,
      ⟨some 76, .call 108 [.t 74, .t 75], some (73, true)⟩,
      ⟨some 77, .pick (.t 73) (.t 76) (.c (.bool false)), none⟩,
      ⟨some 78, .mov (.t 77), none⟩,
      ⟨some 79, .ldf 8 0 4 true, some (78, true)⟩,
      ⟨some 80, .ldf 12 0 4 true, some (78, true)⟩,
      ⟨some 81, .call 89 [.t 79, .t 80], some (78, true)⟩,
      ⟨some 82, .pick (.t 78) (.t 81) (.c (.bool false)), none⟩,
      ⟨some 83, .mov (.t 82), none⟩,
      ⟨some 84, .ldf 9 0 4 true, some (83, true)⟩,
      ⟨some 85, .ldf 13 0 4 true, some (83, true)⟩,
      ⟨some 86, .call 89 [.t 84, .t 85], some (83, true)⟩,
      ⟨some 87, .pick (.t 83) (.t 86) (.c (.bool false)), none⟩,
      ⟨some 88, .mov (.t 87), none⟩,
      ⟨some 89, .ldf 15 0 7 true, some (88, true)⟩,
      ⟨some 90, .ldf 17 0 7 true, some (88, true)⟩,
      ⟨some 91, .call 108 [.t 89, .t 90], some (88, true)⟩,
      ⟨some 92, .pick (.t 88) (.t 91) (.c (.bool false)), none⟩,
      ⟨some 93, .mov (.t 92), none⟩,
      ⟨some 94, .ldf 3 0 7 true, some (93, true)⟩,
      ⟨some 95, .call 114 [.t 94], some (93, true)⟩,
      ⟨some 96, .mov (.t 2), some (93, true)⟩,
      ⟨some 97, .call 92 [.t 95, .t 96], some (93, true)⟩,
      ⟨some 98, .ldf 3 0 7 true, some (93, true)⟩,
      ⟨some 99, .mov (.t 2), some (93, true)⟩,
      ⟨some 100, .call 122 [.t 98, .t 99], some (93, true)⟩,
      ⟨some 101, .call 108 [.t 97, .t 100], some (93, true)⟩,
      ⟨some 102, .pick (.t 93) (.t 101) (.c (.bool false)), none⟩,
      ⟨some 6, .mov (.t 102), none⟩]) (.ret)))))))

def sealringlaw54_TicketIssue : AFun := { nparams := 3, ntmps := 103, res := [.tmp 6], keep := false, body := sealringlaw54_TicketIssue_b }
theorem sealringlaw54_TicketIssue_body : sealringlaw54_TicketIssue.body = sealringlaw54_TicketIssue_b := rfl
theorem sealringlaw54_TicketIssue_res : sealringlaw54_TicketIssue.res = [.tmp 6] := rfl
theorem sealringlaw54_TicketIssue_keep : sealringlaw54_TicketIssue.keep = false := rfl

/-- sealring/sealringlaw54.own : 114 -/
def sealringlaw54_own_b : AC :=
  .seq (.reg false [
      ⟨some 1, .box (.t 0), none⟩,
      ⟨some 2, .alloc [.str [], .int .i64 0, .sl true 6 [], .int .i64 0, .sl true 2 [], .int .i64 0, .int .i64 0], none⟩]) (.seq (.reg true [
      ⟨some 3, .fad 1 2, none⟩,
      ⟨some 4, .ldf 1 2 1 false, none⟩,
      ⟨some 5, .call 51 [.t 4], none⟩,
      ⟨some 6, .fad 1 4, none⟩,
      ⟨some 7, .ldf 1 4 1 false, none⟩,
      ⟨some 8, .call 52 [.t 7], none⟩,
      ⟨some 9, .fad 1 2, none⟩,
      ⟨none, .stfm 1 2 5, none⟩,
      ⟨some 10, .fad 1 4, none⟩,
      ⟨none, .stfm 1 4 8, none⟩]) (.seq (.reg false [
      ⟨some 11, .ldf 1 0 7 true, none⟩,
      ⟨none, .stf 2 0 7 (.t 11), none⟩]) (.ret)))

def sealringlaw54_own : AFun := { nparams := 1, ntmps := 12, res := [.cell 2 7 true], keep := false, body := sealringlaw54_own_b }
theorem sealringlaw54_own_body : sealringlaw54_own.body = sealringlaw54_own_b := rfl
theorem sealringlaw54_own_res : sealringlaw54_own.res = [.cell 2 7 true] := rfl
theorem sealringlaw54_own_keep : sealringlaw54_own.keep = false := rfl

/-- sealring/sealringref54.Issue : 115 -/
def sealringref54_Issue_b : AC :=
  .seq (.reg false [
      ⟨some 3, .box (.t 0), none⟩,
      ⟨some 6, .alloc [.str [], .int .i64 0, .sl true 6 [], .int .i64 0, .sl true 2 [], .int .i64 0, .int .i64 0], none⟩,
      ⟨some 7, .alloc [.int .i64 0, .str [], .int .i64 0, .sl true 4 []], none⟩,
      ⟨some 8, .alloc [.int .i64 0, .str [], .int .i64 0, .sl true 4 []], none⟩,
      ⟨some 9, .mov (.c (.int .i64 0)), none⟩]) (.seq (.seq (.reg false [
      ⟨some 13, .ldf 3 0 7 true, none⟩,
      ⟨some 14, .mov (.t 2), none⟩,
      ⟨some 15, .call 116 [.t 13, .t 14], none⟩,
      ⟨some 10, .mov (.t 15), none⟩]) (.seq (.reg false [
      ⟨some 16, .mov (.t 10), none⟩,
      ⟨some 17, .bin .neq (.t 16) (.c (.int .i64 0)), none⟩]) (.cond (.t 17) (.seq (.reg false [
      ⟨some 18, .mkst [.str [], .int .i64 0, .sl true 6 [], .int .i64 0, .sl true 2 [], .int .i64 0, .int .i64 0] [], none⟩,
      ⟨some 19, .mkst [.int .i64 0, .str [], .int .i64 0, .sl true 4 []] [], none⟩,
      ⟨some 20, .mkst [.int .i64 0, .str [], .int .i64 0, .sl true 4 []] [], none⟩,
      ⟨some 21, .mov (.t 10), none⟩,
      ⟨none, .stf 6 0 7 (.t 18), none⟩,
      ⟨none, .stf 7 0 4 (.t 19), none⟩,
      ⟨none, .stf 8 0 4 (.t 20), none⟩,
      ⟨some 9, .mov (.t 21), none⟩]) (.ret)) (.skip)))) (.seq (.seq (.reg false [
      ⟨some 22, .mov (.t 1), none⟩,
      ⟨some 23, .call 57 [.t 22], none⟩,
      ⟨some 24, .un .not (.t 23), none⟩]) (.cond (.t 24) (.seq (.reg false [
      ⟨some 25, .mkst [.str [], .int .i64 0, .sl true 6 [], .int .i64 0, .sl true 2 [], .int .i64 0, .int .i64 0] [], none⟩,
      ⟨some 26, .mkst [.int .i64 0, .str [], .int .i64 0, .sl true 4 []] [], none⟩,
      ⟨some 27, .mkst [.int .i64 0, .str [], .int .i64 0, .sl true 4 []] [], none⟩,
      ⟨none, .stf 6 0 7 (.t 25), none⟩,
      ⟨none, .stf 7 0 4 (.t 26), none⟩,
      ⟨none, .stf 8 0 4 (.t 27), none⟩,
      ⟨some 9, .mov (.c (.int .i64 2)), none⟩]) (.ret)) (.skip))) (.seq (.seq (.reg false [
      ⟨some 28, .fad 3 3, none⟩,
      ⟨some 29, .ldf 3 3 1 false, none⟩,
      ⟨some 30, .bin .eql (.t 29) (.c (.int .i64 10000)), none⟩]) (.cond (.t 30) (.seq (.reg false [
      ⟨some 31, .mkst [.str [], .int .i64 0, .sl true 6 [], .int .i64 0, .sl true 2 [], .int .i64 0, .int .i64 0] [], none⟩,
      ⟨some 32, .mkst [.int .i64 0, .str [], .int .i64 0, .sl true 4 []] [], none⟩,
      ⟨some 33, .mkst [.int .i64 0, .str [], .int .i64 0, .sl true 4 []] [], none⟩,
      ⟨none, .stf 6 0 7 (.t 31), none⟩,
      ⟨none, .stf 7 0 4 (.t 32), none⟩,
      ⟨none, .stf 8 0 4 (.t 33), none⟩,
      ⟨some 9, .mov (.c (.int .i64 3)), none⟩]) (.ret)) (.skip))) (.seq (.reg false [
      ⟨some 34, .fad 3 0, none⟩,
      ⟨some 35, .ldf 3 0 1 false, none⟩,
      ⟨some 36, .fad 3 3, none⟩,
      ⟨some 37, .ldf 3 3 1 false, none⟩,
      ⟨some 38, .call 117 [.t 35, .t 37], none⟩,
      ⟨some 11, .alloc [.int .i64 0, .str [], .int .i64 0, .sl true 4 []], none⟩,
      ⟨none, .stf 11 0 4 (.t 38), none⟩]) (.seq (.reg true [
      ⟨some 39, .mov (.t 1), none⟩,
      ⟨some 40, .ldf 11 0 4 true, none⟩,
      ⟨some 41, .fad 3 3, none⟩,
      ⟨some 42, .ldf 3 3 1 false, none⟩,
      ⟨some 43, .mov (.t 2), none⟩,
      ⟨some 44, .fad 3 5, none⟩,
      ⟨some 45, .ldf 3 5 1 false, none⟩,
      ⟨some 46, .bin .add (.t 43) (.t 45), none⟩,
      ⟨some 47, .mkst [.str [], .int .i64 0, .str [], .int .i64 0, .sl true 4 [], .int .i64 0, .int .i64 0] [(0, 1, .t 39), (1, 4, .t 40), (5, 1, .t 42), (6, 1, .t 46)], none⟩,
      ⟨some 48, .fad 3 2, none⟩,
      ⟨some 49, .ldf 3 2 1 false, none⟩,
      ⟨some 50, .fad 3 2, none⟩,
      ⟨some 51, .ldf 3 2 1 false, none⟩,
      ⟨some 52, .lenl (.t 51), none⟩,
      ⟨some 53, .bin .sub (.t 52) (.c (.int .i64 1)), none⟩,
      ⟨some 54, .idxa 6 (.t 49) (.t 53), none⟩,
      ⟨some 55, .fadr 54 2, none⟩,
      ⟨some 56, .ld 55 4 true, none⟩,
      ⟨some 57, .call 118 [.t 47, .t 56], none⟩,
      ⟨some 12, .alloc [.int .i64 0, .str [], .int .i64 0, .sl true 4 []], none⟩,
      ⟨none, .stf 12 0 4 (.t 57), none⟩]) (.seq (.reg false [
      ⟨some 58, .fad 3 3, none⟩,
      ⟨some 59, .ldf 3 3 1 false, none⟩,
      ⟨some 60, .bin .add (.t 59) (.c (.int .i64 1)), none⟩,
      ⟨some 61, .fad 3 3, none⟩,
      ⟨none, .stf 3 3 1 (.t 60), none⟩]) (.seq (.reg false [
      ⟨some 62, .mov (.t 2), none⟩,
      ⟨some 63, .fad 3 6, none⟩,
      ⟨none, .stf 3 6 1 (.t 62), none⟩]) (.seq (.reg true [
      ⟨some 64, .ldf 3 0 7 true, none⟩,
      ⟨some 65, .ldf 12 0 4 true, none⟩,
      ⟨some 66, .ldf 11 0 4 true, none⟩,
      ⟨none, .stf 6 0 7 (.t 64), none⟩,
      ⟨none, .stf 7 0 4 (.t 65), none⟩,
      ⟨none, .stf 8 0 4 (.t 66), none⟩,
      ⟨some 9, .mov (.c (.int .i64 0)), none⟩]) (.ret)))))))))

def sealringref54_Issue : AFun := { nparams := 3, ntmps := 67, res := [.cell 6 7 true, .cell 7 4 true, .cell 8 4 true, .tmp 9], keep := false, body := sealringref54_Issue_b }
theorem sealringref54_Issue_body : sealringref54_Issue.body = sealringref54_Issue_b := rfl
theorem sealringref54_Issue_res : sealringref54_Issue.res = [.cell 6 7 true, .cell 7 4 true, .cell 8 4 true, .tmp 9] := rfl
theorem sealringref54_Issue_keep : sealringref54_Issue.keep = false := rfl

/-- sealring/sealringref54.called : 116 -/
def sealringref54_called_b : AC :=
  .seq (.reg false [
      ⟨some 2, .box (.t 0), none⟩,
      ⟨some 4, .mov (.c (.int .i64 0)), none⟩]) (.seq (.seq (.reg false [
      ⟨some 6, .ldf 2 0 7 true, none⟩,
      ⟨some 7, .call 109 [.t 6], none⟩,
      ⟨some 5, .mov (.t 7), none⟩]) (.seq (.reg false [
      ⟨some 8, .mov (.t 5), none⟩,
      ⟨some 9, .bin .neq (.t 8) (.c (.int .i64 0)), none⟩]) (.cond (.t 9) (.seq (.reg false [
      ⟨some 10, .mov (.t 5), none⟩,
      ⟨some 4, .mov (.t 10), none⟩]) (.ret)) (.skip)))) (.seq (.seq (.reg false [
      ⟨some 11, .mov (.t 1), none⟩,
      ⟨some 12, .fad 2 6, none⟩,
      ⟨some 13, .ldf 2 6 1 false, none⟩,
      ⟨some 14, .bin .lss (.t 11) (.t 13), none⟩,
      ⟨some 15, .mov (.t 14), none⟩,
      ⟨some 16, .mov (.t 1), some (15, false)⟩,
      ⟨some 17, .bin .gtr (.t 16) (.c (.int .i64 100000)), some (15, false)⟩,
      ⟨some 18, .pick (.t 15) (.c (.bool true)) (.t 17), none⟩]) (.cond (.t 18) (.seq (.reg false [
      ⟨some 4, .mov (.c (.int .i64 7)), none⟩]) (.ret)) (.skip))) (.seq (.reg false [
      ⟨some 4, .mov (.c (.int .i64 0)), none⟩]) (.ret))))

def sealringref54_called : AFun := { nparams := 2, ntmps := 19, res := [.tmp 4], keep := false, body := sealringref54_called_b }
theorem sealringref54_called_body : sealringref54_called.body = sealringref54_called_b := rfl
theorem sealringref54_called_res : sealringref54_called.res = [.tmp 4] := rfl
theorem sealringref54_called_keep : sealringref54_called.keep = false := rfl

/-- sealring/sealringref54.TicketKey : 117 -/
def sealringref54_TicketKey_b : AC :=
  .seq (.reg false [
      ⟨some 4, .alloc [.int .i64 0, .str [], .int .i64 0, .sl true 4 []], none⟩]) (.seq (.reg false [
      ⟨some 5, .mov (.t 0), none⟩,
      ⟨some 6, .bin .add (.t 5) (.c (.str [95])), none⟩,
      ⟨some 7, .mov (.t 1), none⟩,
      ⟨some 8, .call 106 [.t 7], none⟩,
      ⟨some 9, .bin .add (.t 6) (.t 8), none⟩,
      ⟨some 10, .call 107 [.t 9, .c (.int .i64 3)], none⟩,
      ⟨none, .stf 4 0 4 (.t 10), none⟩]) (.ret))

def sealringref54_TicketKey : AFun := { nparams := 2, ntmps := 11, res := [.cell 4 4 true], keep := false, body := sealringref54_TicketKey_b }
theorem sealringref54_TicketKey_body : sealringref54_TicketKey.body = sealringref54_TicketKey_b := rfl
theorem sealringref54_TicketKey_res : sealringref54_TicketKey.res = [.cell 4 4 true] := rfl
theorem sealringref54_TicketKey_keep : sealringref54_TicketKey.keep = false := rfl

/-- sealring/sealringref54.Written : 118 -/
def sealringref54_Written_b : AC :=
  .seq (.reg false [
      ⟨some 2, .box (.t 0), none⟩,
      ⟨some 3, .box (.t 1), none⟩,
      ⟨some 4, .alloc [.int .i64 0, .str [], .int .i64 0, .sl true 4 []], none⟩]) (.seq (.reg true [
      ⟨some 6, .fad 2 1, none⟩,
      ⟨some 7, .ldf 2 1 4 true, none⟩,
      ⟨some 8, .fad 2 5, none⟩,
      ⟨some 9, .ldf 2 5 1 false, none⟩,
      ⟨some 10, .call 119 [.t 9], none⟩,
      ⟨some 11, .fad 2 6, none⟩,
      ⟨some 12, .ldf 2 6 1 false, none⟩,
      ⟨some 13, .call 119 [.t 12], none⟩,
      ⟨some 14, .mksl 4 [.t 10, .t 13], none⟩,
      ⟨some 15, .call 120 [.c (.str [112, 97, 105, 114]), .t 14], none⟩,
      ⟨some 16, .mksl 4 [.t 7, .t 15], none⟩,
      ⟨some 17, .call 120 [.c (.str [112, 97, 105, 114]), .t 16], none⟩,
      ⟨some 5, .alloc [.int .i64 0, .str [], .int .i64 0, .sl true 4 []], none⟩,
      ⟨none, .stf 5 0 4 (.t 17), none⟩]) (.seq (.reg true [
      ⟨some 18, .fad 2 0, none⟩,
      ⟨some 19, .ldf 2 0 1 false, none⟩,
      ⟨some 20, .call 107 [.t 19, .c (.int .i64 1)], none⟩,
      ⟨some 21, .ldf 5 0 4 true, none⟩,
      ⟨some 22, .mksl 4 [.t 20, .t 21], none⟩,
      ⟨some 23, .call 120 [.c (.str [112, 97, 105, 114]), .t 22], none⟩,
      ⟨some 24, .ldf 3 0 4 true, none⟩,
      ⟨some 25, .mksl 4 [.t 23, .t 24], none⟩,
      ⟨some 26, .call 120 [.c (.str [101, 110, 99]), .t 25], none⟩,
      ⟨none, .stf 4 0 4 (.t 26), none⟩]) (.ret)))

def sealringref54_Written : AFun := { nparams := 2, ntmps := 27, res := [.cell 4 4 true], keep := false, body := sealringref54_Written_b }
theorem sealringref54_Written_body : sealringref54_Written.body = sealringref54_Written_b := rfl
theorem sealringref54_Written_res : sealringref54_Written.res = [.cell 4 4 true] := rfl
theorem sealringref54_Written_keep : sealringref54_Written.keep = false := rfl

/-- sealring/sealringref54.Number : 119 -/
def sealringref54_Number_b : AC :=
  .seq (.reg false [
      ⟨some 2, .alloc [.int .i64 0, .str [], .int .i64 0, .sl true 4 []], none⟩]) (.seq (.reg false [
      ⟨some 3, .mov (.t 0), none⟩,
      ⟨some 4, .call 106 [.t 3], none⟩,
      ⟨some 5, .bin .add (.c (.str [110, 35])) (.t 4), none⟩,
      ⟨some 6, .call 107 [.t 5, .c (.int .i64 4)], none⟩,
      ⟨none, .stf 2 0 4 (.t 6), none⟩]) (.ret))

def sealringref54_Number : AFun := { nparams := 1, ntmps := 7, res := [.cell 2 4 true], keep := false, body := sealringref54_Number_b }
theorem sealringref54_Number_body : sealringref54_Number.body = sealringref54_Number_b := rfl
theorem sealringref54_Number_res : sealringref54_Number.res = [.cell 2 4 true] := rfl
theorem sealringref54_Number_keep : sealringref54_Number.keep = false := rfl

/-- sealring/sealringref01.App : 120 -/
def sealringref01_App_b : AC :=
  .seq (.reg false [
      ⟨some 4, .alloc [.int .i64 0, .str [], .int .i64 0, .sl true 4 []], none⟩]) (.seq (.reg false [
      ⟨some 5, .mov (.t 0), none⟩,
      ⟨some 6, .mksl 4 [], none⟩,
      ⟨some 7, .mov (.t 1), none⟩,
      ⟨some 8, .app 56 4 (.t 6) (.t 7), none⟩,
      ⟨some 9, .mkst [.int .i64 0, .str [], .int .i64 0, .sl true 4 []] [(0, 1, .c (.int .i64 3)), (1, 1, .t 5), (3, 1, .t 8)], none⟩,
      ⟨none, .stf 4 0 4 (.t 9), none⟩]) (.ret))

def sealringref01_App : AFun := { nparams := 2, ntmps := 10, res := [.cell 4 4 true], keep := false, body := sealringref01_App_b }
theorem sealringref01_App_body : sealringref01_App.body = sealringref01_App_b := rfl
theorem sealringref01_App_res : sealringref01_App.res = [.cell 4 4 true] := rfl
theorem sealringref01_App_keep : sealringref01_App.keep = false := rfl

/-- sealring/sealringref54.Rotate : 121 -/
def sealringref54_Rotate_b : AC :=
  .seq (.reg false [
      ⟨some 2, .box (.t 0), none⟩,
      ⟨some 4, .alloc [.str [], .int .i64 0, .sl true 6 [], .int .i64 0, .sl true 2 [], .int .i64 0, .int .i64 0], none⟩,
      ⟨some 5, .mov (.c (.int .i64 0)), none⟩]) (.seq (.seq (.reg false [
      ⟨some 8, .ldf 2 0 7 true, none⟩,
      ⟨some 9, .mov (.t 1), none⟩,
      ⟨some 10, .call 116 [.t 8, .t 9], none⟩,
      ⟨some 6, .mov (.t 10), none⟩]) (.seq (.reg false [
      ⟨some 11, .mov (.t 6), none⟩,
      ⟨some 12, .bin .neq (.t 11) (.c (.int .i64 0)), none⟩]) (.cond (.t 12) (.seq (.reg false [
      ⟨some 13, .mkst [.str [], .int .i64 0, .sl true 6 [], .int .i64 0, .sl true 2 [], .int .i64 0, .int .i64 0] [], none⟩,
      ⟨some 14, .mov (.t 6), none⟩,
      ⟨none, .stf 4 0 7 (.t 13), none⟩,
      ⟨some 5, .mov (.t 14), none⟩]) (.ret)) (.skip)))) (.seq (.seq (.reg false [
      ⟨some 15, .fad 2 2, none⟩,
      ⟨some 16, .ldf 2 2 1 false, none⟩,
      ⟨some 17, .lenl (.t 16), none⟩,
      ⟨some 18, .bin .eql (.t 17) (.c (.int .i64 8)), none⟩,
      ⟨some 19, .mov (.t 18), none⟩,
      ⟨some 20, .fad 2 1, some (19, false)⟩,
      ⟨some 21, .ldf 2 1 1 false, some (19, false)⟩,
      ⟨some 22, .bin .eql (.t 21) (.c (.int .i64 10000)), some (19, false)⟩,
      ⟨some 23, .pick (.t 19) (.c (.bool true)) (.t 22), none⟩]) (.cond (.t 23) (.seq (.reg false [
      ⟨some 24, .mkst [.str [], .int .i64 0, .sl true 6 [], .int .i64 0, .sl true 2 [], .int .i64 0, .int .i64 0] [], none⟩,
      ⟨none, .stf 4 0 7 (.t 24), none⟩,
      ⟨some 5, .mov (.c (.int .i64 3)), none⟩]) (.ret)) (.skip))) (.seq (.reg false [
      ⟨some 25, .mksl 6 [], none⟩,
      ⟨some 26, .fad 2 2, none⟩,
      ⟨some 27, .ldf 2 2 1 false, none⟩,
      ⟨some 28, .appg 72 6 (.t 25) (.t 27), none⟩,
      ⟨some 7, .mov (.t 28), none⟩]) (.seq (.reg false [
      ⟨some 29, .mov (.t 7), none⟩,
      ⟨some 30, .mov (.t 7), none⟩,
      ⟨some 31, .lenl (.t 30), none⟩,
      ⟨some 32, .bin .sub (.t 31) (.c (.int .i64 1)), none⟩,
      ⟨some 33, .mov (.t 1), none⟩,
      ⟨some 34, .fad 2 5, none⟩,
      ⟨some 35, .ldf 2 5 1 false, none⟩,
      ⟨some 36, .bin .add (.t 33) (.t 35), none⟩,
      ⟨some 37, .idxa 6 (.t 29) (.t 32), none⟩,
      ⟨some 38, .fadr 37 1, none⟩,
      ⟨none, .st 38 1 (.t 36), none⟩]) (.seq (.reg false [
      ⟨some 39, .fad 2 1, none⟩,
      ⟨some 40, .ldf 2 1 1 false, none⟩,
      ⟨some 41, .bin .add (.t 40) (.c (.int .i64 1)), none⟩,
      ⟨some 42, .fad 2 1, none⟩,
      ⟨none, .stf 2 1 1 (.t 41), none⟩]) (.seq (.reg true [
      ⟨some 43, .mov (.t 7), none⟩,
      ⟨some 44, .fad 2 1, none⟩,
      ⟨some 45, .ldf 2 1 1 false, none⟩,
      ⟨some 46, .fad 2 0, none⟩,
      ⟨some 47, .ldf 2 0 1 false, none⟩,
      ⟨some 48, .fad 2 1, none⟩,
      ⟨some 49, .ldf 2 1 1 false, none⟩,
      ⟨some 50, .call 105 [.t 47, .t 49], none⟩,
      ⟨some 51, .mkst [.int .i64 0, .int .i64 0, .int .i64 0, .str [], .int .i64 0, .sl true 4 []] [(0, 1, .t 45), (2, 4, .t 50)], none⟩,
      ⟨some 52, .mksl 6 [.t 51], none⟩,
      ⟨some 53, .appz 72 6 43 (.t 52), none⟩,
      ⟨some 54, .fad 2 2, none⟩,
      ⟨none, .stfm 2 2 53, none⟩]) (.seq (.reg false [
      ⟨some 55, .mov (.t 1), none⟩,
      ⟨some 56, .fad 2 6, none⟩,
      ⟨none, .stf 2 6 1 (.t 55), none⟩]) (.seq (.reg false [
      ⟨some 57, .ldf 2 0 7 true, none⟩,
      ⟨none, .stf 4 0 7 (.t 57), none⟩,
      ⟨some 5, .mov (.c (.int .i64 0)), none⟩]) (.ret)))))))))

def sealringref54_Rotate : AFun := { nparams := 2, ntmps := 58, res := [.cell 4 7 true, .tmp 5], keep := false, body := sealringref54_Rotate_b }
theorem sealringref54_Rotate_body : sealringref54_Rotate.body = sealringref54_Rotate_b := rfl
theorem sealringref54_Rotate_res : sealringref54_Rotate.res = [.cell 4 7 true, .tmp 5] := rfl
theorem sealringref54_Rotate_keep : sealringref54_Rotate.keep = false := rfl

def sealringref54_Expire_l0 : AC :=
  .seq (.seq (.reg false [
      ⟨some 14, .mov (.t 6), none⟩,
      ⟨some 15, .fad 2 2, none⟩,
      ⟨some 16, .ldf 2 2 1 false, none⟩,
      ⟨some 17, .lenl (.t 16), none⟩,
      ⟨some 18, .bin .lss (.t 14) (.t 17), none⟩]) (.cond (.t 18) (.skip) (.exit 0))) (.seq (.block 1 (.seq (.reg false [
      ⟨some 21, .fad 2 2, none⟩,
      ⟨some 22, .ldf 2 2 1 false, none⟩,
      ⟨some 23, .mov (.t 6), none⟩,
      ⟨some 24, .idxa 6 (.t 22) (.t 23), none⟩,
      ⟨some 25, .fadr 24 1, none⟩,
      ⟨some 26, .ld 25 1 false, none⟩,
      ⟨some 27, .bin .eql (.t 26) (.c (.int .i64 0)), none⟩,
      ⟨some 28, .mov (.t 27), none⟩,
      ⟨some 29, .fad 2 2, some (28, false)⟩,
      ⟨some 30, .ldf 2 2 1 false, some (28, false)⟩,
      ⟨some 31, .mov (.t 6), some (28, false)⟩,
      ⟨some 32, .idxa 6 (.t 30) (.t 31), some (28, false)⟩,
      ⟨some 33, .fadr 32 1, some (28, false)⟩,
      ⟨some 34, .ld 33 1 false, some (28, false)⟩,
      ⟨some 35, .mov (.t 1), some (28, false)⟩,
      ⟨some 36, .bin .geq (.t 34) (.t 35), some (28, false)⟩,
      ⟨some 37, .pick (.t 28) (.c (.bool true)) (.t 36), none⟩]) (.cond (.t 37) (.reg false [
      ⟨some 38, .mvs 5, none⟩,
      ⟨some 39, .fad 2 2, none⟩,
      ⟨some 40, .ldf 2 2 1 false, none⟩,
      ⟨some 41, .mov (.t 6), none⟩,
      ⟨some 42, .idxa 6 (.t 40) (.t 41), none⟩,
      ⟨some 43, .ld 42 6 true, none⟩,
      ⟨some 44, .mksl 6 [.t 43], none⟩,
      ⟨some 45, .app 72 6 (.t 38) (.t 44), none⟩,
      ⟨some 5, .mvs 45, none⟩]) (.skip)))) (.reg false [
      ⟨some 19, .mov (.t 6), none⟩,
      ⟨some 20, .bin .add (.t 19) (.c (.int .i64 1)), none⟩,
      ⟨some 6, .mov (.t 20), none⟩]))

def sealringref54_Expire_l1 : AC :=
  .seq (.seq (.reg false [
      ⟨some 46, .mov (.t 8), none⟩,
      ⟨some 47, .fad 2 4, none⟩,
      ⟨some 48, .ldf 2 4 1 false, none⟩,
      ⟨some 49, .lenl (.t 48), none⟩,
      ⟨some 50, .bin .lss (.t 46) (.t 49), none⟩]) (.cond (.t 50) (.skip) (.exit 2))) (.seq (.block 3 (.seq (.reg false [
      ⟨some 53, .fad 2 4, none⟩,
      ⟨some 54, .ldf 2 4 1 false, none⟩,
      ⟨some 55, .mov (.t 8), none⟩,
      ⟨some 56, .idxa 2 (.t 54) (.t 55), none⟩,
      ⟨some 57, .fadr 56 1, none⟩,
      ⟨some 58, .ld 57 1 false, none⟩,
      ⟨some 59, .mov (.t 1), none⟩,
      ⟨some 60, .bin .geq (.t 58) (.t 59), none⟩]) (.cond (.t 60) (.reg false [
      ⟨some 61, .mvs 7, none⟩,
      ⟨some 62, .fad 2 4, none⟩,
      ⟨some 63, .ldf 2 4 1 false, none⟩,
      ⟨some 64, .mov (.t 8), none⟩,
      ⟨some 65, .idxa 2 (.t 63) (.t 64), none⟩,
      ⟨some 66, .ld 65 2 true, none⟩,
      ⟨some 67, .mksl 2 [.t 66], none⟩,
      ⟨some 68, .app 16 2 (.t 61) (.t 67), none⟩,
      ⟨some 7, .mvs 68, none⟩]) (.skip)))) (.reg false [
      ⟨some 51, .mov (.t 8), none⟩,
      ⟨some 52, .bin .add (.t 51) (.c (.int .i64 1)), none⟩,
      ⟨some 8, .mov (.t 52), none⟩]))

def sealringref54_Expire_r0 : AC :=
  .seq (.reg false [
      ⟨some 69, .mov (.t 5), none⟩,
      ⟨some 70, .mov (.t 7), none⟩,
      ⟨some 71, .mov (.t 1), none⟩,
      ⟨some 72, .fad 2 2, none⟩,
      ⟨none, .stfm 2 2 69, none⟩,
      ⟨some 73, .fad 2 4, none⟩,
      ⟨none, .stfm 2 4 70, none⟩,
      ⟨some 74, .fad 2 6, none⟩,
      ⟨none, .stf 2 6 1 (.t 71), none⟩]) (.seq (.reg false [
      ⟨some 75, .ldf 2 0 7 true, none⟩,
      ⟨none, .stf 4 0 7 (.t 75), none⟩]) (.ret))

def sealringref54_Expire_r1 : AC :=
  .seq (.reg false [
      ⟨some 7, .mov (.c (.sl true 2 [])), none⟩]) (.seq (.seq (.reg false [
      ⟨some 8, .mov (.c (.int .i64 0)), none⟩]) (.block 2 (.loop (sealringref54_Expire_l1)))) (sealringref54_Expire_r0))

/-- sealring/sealringref54.Expire : 122 -/
def sealringref54_Expire_b : AC :=
  .seq (.reg false [
      ⟨some 2, .box (.t 0), none⟩,
      ⟨some 4, .alloc [.str [], .int .i64 0, .sl true 6 [], .int .i64 0, .sl true 2 [], .int .i64 0, .int .i64 0], none⟩]) (.seq (.seq (.reg false [
      ⟨some 9, .ldf 2 0 7 true, none⟩,
      ⟨some 10, .mov (.t 1), none⟩,
      ⟨some 11, .call 116 [.t 9, .t 10], none⟩,
      ⟨some 12, .bin .neq (.t 11) (.c (.int .i64 0)), none⟩]) (.cond (.t 12) (.seq (.reg false [
      ⟨some 13, .ldf 2 0 7 true, none⟩,
      ⟨none, .stf 4 0 7 (.t 13), none⟩]) (.ret)) (.skip))) (.seq (.reg false [
      ⟨some 5, .mov (.c (.sl true 6 [])), none⟩]) (.seq (.seq (.reg false [
      ⟨some 6, .mov (.c (.int .i64 0)), none⟩]) (.block 0 (.loop (sealringref54_Expire_l0)))) (sealringref54_Expire_r1))))

def sealringref54_Expire : AFun := { nparams := 2, ntmps := 76, res := [.cell 4 7 true], keep := false, body := sealringref54_Expire_b }
theorem sealringref54_Expire_body : sealringref54_Expire.body = sealringref54_Expire_b := rfl
theorem sealringref54_Expire_res : sealringref54_Expire.res = [.cell 4 7 true] := rfl
theorem sealringref54_Expire_keep : sealringref54_Expire.keep = false := rfl

/-- sealring/sealringlaw54.TicketResume : 123 -/
def sealringlaw54_TicketResume_b : AC :=
  .seq (.reg false [
      ⟨some 3, .box (.t 0), none⟩,
      ⟨some 4, .box (.t 1), none⟩,
      ⟨some 6, .mov (.c (.bool false)), none⟩]) (.seq (.seq (.reg false [
      ⟨some 17, .call 1 [], none⟩,
      ⟨some 18, .un .not (.t 17), none⟩,
      ⟨some 19, .mov (.t 18), none⟩,
      ⟨some 20, .ldf 3 0 7 true, some (19, false)⟩,
      ⟨some 21, .call 100 [.t 20], some (19, false)⟩,
      ⟨some 22, .un .not (.t 21), some (19, false)⟩,
      ⟨some 23, .pick (.t 19) (.c (.bool true)) (.t 22), none⟩,
      ⟨some 24, .mov (.t 23), none⟩,
      ⟨some 25, .ldf 4 0 4 true, some (24, false)⟩,
      ⟨some 26, .mksl 4 [.t 25], some (24, false)⟩,
      ⟨some 27, .call 101 [.t 26, .c (.int .i64 1), .c (.int .i64 40)], some (24, false)⟩,
      ⟨some 28, .un .not (.t 27), some (24, false)⟩,
      ⟨some 29, .pick (.t 24) (.c (.bool true)) (.t 28), none⟩]) (.cond (.t 29) (.seq (.reg false [
      ⟨some 30, .call 1 [], none⟩,
      ⟨some 6, .mov (.t 30), none⟩]) (.ret)) (.skip))) (.seq (.reg true [
      ⟨some 32, .ldf 3 0 7 true, none⟩,
      ⟨some 33, .call 114 [.t 32], none⟩,
      ⟨some 34, .ldf 4 0 4 true, none⟩,
      ⟨some 35, .mov (.t 2), none⟩,
      ⟨some 36, .call 67 [.t 33, .t 34, .t 35], none⟩,
      ⟨some 31, .mov (.t 36), none⟩,
      ⟨some 37, .ext (.t 31) 0, none⟩,
      ⟨some 38, .ext (.t 31) 1, none⟩,
      ⟨some 39, .ext (.t 31) 2, none⟩,
      ⟨some 7, .alloc [.str [], .int .i64 0, .sl true 6 [], .int .i64 0, .sl true 2 [], .int .i64 0, .int .i64 0], none⟩,
      ⟨some 8, .alloc [.int .i64 0, .str [], .int .i64 0, .sl true 4 []], none⟩,
      ⟨none, .stf 7 0 7 (.t 37), none⟩,
      ⟨none, .stf 8 0 4 (.t 38), none⟩,
      ⟨some 9, .mov (.t 39), none⟩]) (.seq (.reg true [
      ⟨some 41, .ldf 3 0 7 true, none⟩,
      ⟨some 42, .call 114 [.t 41], none⟩,
      ⟨some 43, .ldf 4 0 4 true, none⟩,
      ⟨some 44, .mov (.t 2), none⟩,
      ⟨some 45, .call 124 [.t 42, .t 43, .t 44], none⟩,
      ⟨some 40, .mov (.t 45), none⟩,
      ⟨some 46, .ext (.t 40) 0, none⟩,
      ⟨some 47, .ext (.t 40) 1, none⟩,
      ⟨some 48, .ext (.t 40) 2, none⟩,
      ⟨some 10, .alloc [.str [], .int .i64 0, .sl true 6 [], .int .i64 0, .sl true 2 [], .int .i64 0, .int .i64 0], none⟩,
      ⟨some 11, .alloc [.int .i64 0, .str [], .int .i64 0, .sl true 4 []], none⟩,
      ⟨none, .stf 10 0 7 (.t 46), none⟩,
      ⟨none, .stf 11 0 4 (.t 47), none⟩,
      ⟨some 12, .mov (.t 48), none⟩]) (.seq (.reg false [
      ⟨some 50, .ldf 3 0 7 true, none⟩,
      ⟨some 51, .ldf 4 0 4 true, none⟩,
      ⟨some 52, .call 68 [.t 50, .t 51], none⟩,
      ⟨some 49, .mov (.t 52), none⟩,
      ⟨some 53, .ext (.t 49) 0, none⟩,
      ⟨some 54, .ext (.t 49) 1, none⟩,
      ⟨some 13, .alloc [.str [], .int .i64 0, .str [], .int .i64 0, .sl true 4 [], .int .i64 0, .int .i64 0], none⟩,
      ⟨none, .stf 13 0 7 (.t 53), none⟩,
      ⟨some 14, .mov (.t 54), none⟩]) (.seq (.reg false [
      ⟨some 56, .ldf 3 0 7 true, none⟩,
      ⟨some 57, .ldf 4 0 4 true, none⟩,
      ⟨some 58, .call 125 [.t 56, .t 57], none⟩,
      ⟨some 55, .mov (.t 58), none⟩,
      ⟨some 59, .ext (.t 55) 0, none⟩,
      ⟨some 60, .ext (.t 55) 1, none⟩,
      ⟨some 15, .alloc [.str [], .int .i64 0, .str [], .int .i64 0, .sl true 4 [], .int .i64 0, .int .i64 0], none⟩,
      ⟨none, .stf 15 0 7 (.t 59), none⟩,
      ⟨some 16, .mov (.t 60), none⟩]) (.seq (.reg false [
      ⟨some 61, .mov (.t 9), none⟩,
      ⟨some 62, .mov (.t 12), none⟩,
      ⟨some 63, .bin .eql (.t 61) (.t 62), none⟩,
      ⟨some 64, .mov (.t 63), none⟩,
      ⟨some 65, .mov (.t 14), some (64, true)⟩,
      ⟨some 66, .mov (.t 16), some (64, true)⟩,
      ⟨some 67, .bin .eql (.t 65) (.t 66), some (64, true)⟩,
      ⟨some 68, .pick (.t 64) (.t 67) (.c (.bool false)), none⟩,
      ⟨some 69, .mov (.t 68), none⟩,
      ⟨some 70, .ldf 7 0 7 true, some (69, true)⟩,
      ⟨some 71, .ldf 10 0 7 true, some (69, true)⟩,
      ⟨some 72, .call 108 [.t 70, .t 71], some (69, true)⟩,
      ⟨some 73, .pick (.t 69) (.t 72) (.c (.bool false)), none⟩,
      ⟨some 74, .mov (.t 73), none⟩,
      ⟨some 75, .ldf 8 0 4 true, some (74, true)⟩,
      ⟨some 76, .ldf 11 0 4 true, some (74, true)⟩,
      ⟨some 77, .call 89 [.t 75, .t 76], some (74, true)⟩,
      ⟨some 78, .pick (.t 74) (.t 77) (.c (.bool false)), none⟩,
      ⟨some 79, .mov (.t 78), none⟩,
      ⟨some 80, .fad 13 0, some (79, true)⟩,
      ⟨some 81, .ldf 13 0 1 false, some (79, true)⟩,
      ⟨some 82, .fad 15 0, some (79, true)⟩,
      ⟨some 83, .ldf 15 0 1 false, some (79, true)⟩,
      ⟨some 84, .bin .eql (.t 81) (.t 83), some (79, true)⟩,
      ⟨some 85, .pick (.t 79) (.t 84) (.c (.bool false)), none⟩,
      ⟨some 86, .mov (.t 85), none⟩,
      ⟨some 87, .fad 13 5, some (86, true)⟩,
      ⟨some 88, .ldf 13 5 1 false, some (86, true)⟩,
      ⟨some 89, .fad 15 5, some (86, true)⟩,
      ⟨some 90, .ldf 15 5 1 false, some (86, true)⟩,
      ⟨some 91, .bin .eql (.t 88) (.t 90), some (86, true)⟩,
      ⟨some 92, .pick (.t 86) (.t 91) (.c (.bool false)), none⟩,
      ⟨some 93, .mov (.t 92), none⟩,
      ⟨some 94, .fad 13 6, some (93, true)⟩,
      ⟨some 95, .ldf 13 6 1 false, some (93, true)⟩,
      ⟨some 96, .fad 15 6, some (93, true)⟩,
      ⟨some 97, .ldf 15 6 1 false, some (93, true)⟩,
      ⟨some 98, .bin .eql (.t 95) (.t 97), some (93, true)⟩,
      ⟨some 99, .pick (.t 93) (.t 98) (.c (.bool false)), none⟩,
      ⟨some 100, .mov (.t 99), none⟩,
      ⟨some 101, .fad 13 1, some (100, true)⟩,
      ⟨some 102, .ldf 13 1 4 true, some (100, true)⟩,
      ⟨some 103, .fad 15 1, some (100, true)⟩,
      ⟨some 104, .ldf 15 1 4 true, some (100, true)⟩,
      ⟨some 105, .call 89 [.t 102, .t 104], some (100, true)⟩,
      ⟨some 106, .pick (.t 100) (.t 105) (.c (.bool false)), none⟩,
      ⟨some 6, .mov (.t 106), none⟩]) (.ret)))))))

def sealringlaw54_TicketResume : AFun := { nparams := 3, ntmps := 107, res := [.tmp 6], keep := false, body := sealringlaw54_TicketResume_b }
theorem sealringlaw54_TicketResume_body : sealringlaw54_TicketResume.body = sealringlaw54_TicketResume_b := rfl
theorem sealringlaw54_TicketResume_res : sealringlaw54_TicketResume.res = [.tmp 6] := rfl
theorem sealringlaw54_TicketResume_keep : sealringlaw54_TicketResume.keep = false := rfl

def sealringref54_Resume_l0 : AC :=
  .seq (.seq (.reg false [
      ⟨some 47, .mov (.t 14), none⟩,
      ⟨some 48, .fad 3 4, none⟩,
      ⟨some 49, .ldf 3 4 1 false, none⟩,
      ⟨some 50, .lenl (.t 49), none⟩,
      ⟨some 51, .bin .lss (.t 47) (.t 50), none⟩]) (.cond (.t 51) (.skip) (.exit 0))) (.seq (.block 1 (.seq (.seq (.reg true [
      ⟨some 54, .fad 3 4, none⟩,
      ⟨some 55, .ldf 3 4 1 false, none⟩,
      ⟨some 56, .mov (.t 14), none⟩,
      ⟨some 57, .idxa 2 (.t 55) (.t 56), none⟩,
      ⟨some 58, .fadr 57 0, none⟩,
      ⟨some 59, .ld 58 1 false, none⟩,
      ⟨some 60, .fad 10 5, none⟩,
      ⟨some 61, .ldf 10 5 1 false, none⟩,
      ⟨some 62, .bin .eql (.t 59) (.t 61), none⟩]) (.cond (.t 62) (.seq (.reg false [
      ⟨some 63, .mkst [.str [], .int .i64 0, .sl true 6 [], .int .i64 0, .sl true 2 [], .int .i64 0, .int .i64 0] [], none⟩,
      ⟨some 64, .mkst [.int .i64 0, .str [], .int .i64 0, .sl true 4 []] [], none⟩,
      ⟨none, .stf 6 0 7 (.t 63), none⟩,
      ⟨none, .stf 7 0 4 (.t 64), none⟩,
      ⟨some 8, .mov (.c (.int .i64 21)), none⟩]) (.ret)) (.skip))) (.seq (.seq (.reg true [
      ⟨some 65, .mov (.t 13), none⟩,
      ⟨some 66, .un .not (.t 65), none⟩,
      ⟨some 67, .mov (.t 66), none⟩,
      ⟨some 68, .fad 3 4, some (67, true)⟩,
      ⟨some 69, .ldf 3 4 1 false, some (67, true)⟩,
      ⟨some 70, .mov (.t 14), some (67, true)⟩,
      ⟨some 71, .idxa 2 (.t 69) (.t 70), some (67, true)⟩,
      ⟨some 72, .fadr 71 0, some (67, true)⟩,
      ⟨some 73, .ld 72 1 false, some (67, true)⟩,
      ⟨some 74, .fad 10 5, some (67, true)⟩,
      ⟨some 75, .ldf 10 5 1 false, some (67, true)⟩,
      ⟨some 76, .bin .gtr (.t 73) (.t 75), some (67, true)⟩,
      ⟨some 77, .pick (.t 67) (.t 76) (.c (.bool false)), none⟩]) (.cond (.t 77) (.seq (.reg false [
      ⟨some 78, .mvs 12, none⟩,
      ⟨some 79, .fad 10 5, none⟩,
      ⟨some 80, .ldf 10 5 1 false, none⟩,
      ⟨some 81, .fad 10 6, none⟩,
      ⟨some 82, .ldf 10 6 1 false, none⟩,
      ⟨some 83, .mkst [.int .i64 0, .int .i64 0] [(0, 1, .t 80), (1, 1, .t 82)], none⟩,
      ⟨some 84, .mksl 2 [.t 83], none⟩,
      ⟨some 85, .app 16 2 (.t 78) (.t 84), none⟩,
      ⟨some 12, .mvs 85, none⟩]) (.reg false [
      ⟨some 13, .mov (.c (.bool true)), none⟩])) (.skip))) (.reg false [
      ⟨some 86, .mvs 12, none⟩,
      ⟨some 87, .fad 3 4, none⟩,
      ⟨some 88, .ldf 3 4 1 false, none⟩,
      ⟨some 89, .mov (.t 14), none⟩,
      ⟨some 90, .idxa 2 (.t 88) (.t 89), none⟩,
      ⟨some 91, .ld 90 2 true, none⟩,
      ⟨some 92, .mksl 2 [.t 91], none⟩,
      ⟨some 93, .app 16 2 (.t 86) (.t 92), none⟩,
      ⟨some 12, .mvs 93, none⟩])))) (.reg false [
      ⟨some 52, .mov (.t 14), none⟩,
      ⟨some 53, .bin .add (.t 52) (.c (.int .i64 1)), none⟩,
      ⟨some 14, .mov (.t 53), none⟩]))

def sealringref54_Resume_r0 : AC :=
  .seq (.seq (.reg false [
      ⟨some 94, .mov (.t 13), none⟩,
      ⟨some 95, .un .not (.t 94), none⟩]) (.cond (.t 95) (.reg false [
      ⟨some 96, .mvs 12, none⟩,
      ⟨some 97, .fad 10 5, none⟩,
      ⟨some 98, .ldf 10 5 1 false, none⟩,
      ⟨some 99, .fad 10 6, none⟩,
      ⟨some 100, .ldf 10 6 1 false, none⟩,
      ⟨some 101, .mkst [.int .i64 0, .int .i64 0] [(0, 1, .t 98), (1, 1, .t 100)], none⟩,
      ⟨some 102, .mksl 2 [.t 101], none⟩,
      ⟨some 103, .app 16 2 (.t 96) (.t 102), none⟩,
      ⟨some 12, .mvs 103, none⟩]) (.skip))) (.seq (.seq (.reg false [
      ⟨some 104, .mov (.t 12), none⟩,
      ⟨some 105, .lenl (.t 104), none⟩,
      ⟨some 106, .bin .gtr (.t 105) (.c (.int .i64 200)), none⟩]) (.cond (.t 106) (.seq (.reg false [
      ⟨some 107, .mkst [.str [], .int .i64 0, .sl true 6 [], .int .i64 0, .sl true 2 [], .int .i64 0, .int .i64 0] [], none⟩,
      ⟨some 108, .mkst [.int .i64 0, .str [], .int .i64 0, .sl true 4 []] [], none⟩,
      ⟨none, .stf 6 0 7 (.t 107), none⟩,
      ⟨none, .stf 7 0 4 (.t 108), none⟩,
      ⟨some 8, .mov (.c (.int .i64 3)), none⟩]) (.ret)) (.skip))) (.seq (.reg false [
      ⟨some 109, .mov (.t 12), none⟩,
      ⟨some 110, .fad 3 4, none⟩,
      ⟨none, .stfm 3 4 109, none⟩]) (.seq (.reg false [
      ⟨some 111, .mov (.t 2), none⟩,
      ⟨some 112, .fad 3 6, none⟩,
      ⟨none, .stf 3 6 1 (.t 111), none⟩]) (.seq (.reg true [
      ⟨some 113, .ldf 3 0 7 true, none⟩,
      ⟨some 114, .fad 10 1, none⟩,
      ⟨some 115, .ldf 10 1 4 true, none⟩,
      ⟨none, .stf 6 0 7 (.t 113), none⟩,
      ⟨none, .stf 7 0 4 (.t 115), none⟩,
      ⟨some 8, .mov (.c (.int .i64 0)), none⟩]) (.ret)))))

/-- sealring/sealringref54.Resume : 124 -/
def sealringref54_Resume_b : AC :=
  .seq (.reg false [
      ⟨some 3, .box (.t 0), none⟩,
      ⟨some 4, .box (.t 1), none⟩,
      ⟨some 6, .alloc [.str [], .int .i64 0, .sl true 6 [], .int .i64 0, .sl true 2 [], .int .i64 0, .int .i64 0], none⟩,
      ⟨some 7, .alloc [.int .i64 0, .str [], .int .i64 0, .sl true 4 []], none⟩,
      ⟨some 8, .mov (.c (.int .i64 0)), none⟩]) (.seq (.seq (.reg false [
      ⟨some 15, .ldf 3 0 7 true, none⟩,
      ⟨some 16, .mov (.t 2), none⟩,
      ⟨some 17, .call 116 [.t 15, .t 16], none⟩,
      ⟨some 9, .mov (.t 17), none⟩]) (.seq (.reg false [
      ⟨some 18, .mov (.t 9), none⟩,
      ⟨some 19, .bin .neq (.t 18) (.c (.int .i64 0)), none⟩]) (.cond (.t 19) (.seq (.reg false [
      ⟨some 20, .mkst [.str [], .int .i64 0, .sl true 6 [], .int .i64 0, .sl true 2 [], .int .i64 0, .int .i64 0] [], none⟩,
      ⟨some 21, .mkst [.int .i64 0, .str [], .int .i64 0, .sl true 4 []] [], none⟩,
      ⟨some 22, .mov (.t 9), none⟩,
      ⟨none, .stf 6 0 7 (.t 20), none⟩,
      ⟨none, .stf 7 0 4 (.t 21), none⟩,
      ⟨some 8, .mov (.t 22), none⟩]) (.ret)) (.skip)))) (.seq (.reg false [
      ⟨some 24, .ldf 3 0 7 true, none⟩,
      ⟨some 25, .ldf 4 0 4 true, none⟩,
      ⟨some 26, .call 125 [.t 24, .t 25], none⟩,
      ⟨some 23, .mov (.t 26), none⟩,
      ⟨some 27, .ext (.t 23) 0, none⟩,
      ⟨some 28, .ext (.t 23) 1, none⟩,
      ⟨some 10, .alloc [.str [], .int .i64 0, .str [], .int .i64 0, .sl true 4 [], .int .i64 0, .int .i64 0], none⟩,
      ⟨none, .stf 10 0 7 (.t 27), none⟩,
      ⟨some 11, .mov (.t 28), none⟩]) (.seq (.seq (.reg false [
      ⟨some 29, .mov (.t 11), none⟩,
      ⟨some 30, .bin .neq (.t 29) (.c (.int .i64 0)), none⟩]) (.cond (.t 30) (.seq (.reg false [
      ⟨some 31, .mkst [.str [], .int .i64 0, .sl true 6 [], .int .i64 0, .sl true 2 [], .int .i64 0, .int .i64 0] [], none⟩,
      ⟨some 32, .mkst [.int .i64 0, .str [], .int .i64 0, .sl true 4 []] [], none⟩,
      ⟨some 33, .mov (.t 11), none⟩,
      ⟨none, .stf 6 0 7 (.t 31), none⟩,
      ⟨none, .stf 7 0 4 (.t 32), none⟩,
      ⟨some 8, .mov (.t 33), none⟩]) (.ret)) (.skip))) (.seq (.seq (.reg false [
      ⟨some 34, .fad 10 5, none⟩,
      ⟨some 35, .ldf 10 5 1 false, none⟩,
      ⟨some 36, .fad 3 3, none⟩,
      ⟨some 37, .ldf 3 3 1 false, none⟩,
      ⟨some 38, .bin .geq (.t 35) (.t 37), none⟩]) (.cond (.t 38) (.seq (.reg false [
      ⟨some 39, .mkst [.str [], .int .i64 0, .sl true 6 [], .int .i64 0, .sl true 2 [], .int .i64 0, .int .i64 0] [], none⟩,
      ⟨some 40, .mkst [.int .i64 0, .str [], .int .i64 0, .sl true 4 []] [], none⟩,
      ⟨none, .stf 6 0 7 (.t 39), none⟩,
      ⟨none, .stf 7 0 4 (.t 40), none⟩,
      ⟨some 8, .mov (.c (.int .i64 22)), none⟩]) (.ret)) (.skip))) (.seq (.seq (.reg false [
      ⟨some 41, .mov (.t 2), none⟩,
      ⟨some 42, .fad 10 6, none⟩,
      ⟨some 43, .ldf 10 6 1 false, none⟩,
      ⟨some 44, .bin .gtr (.t 41) (.t 43), none⟩]) (.cond (.t 44) (.seq (.reg false [
      ⟨some 45, .mkst [.str [], .int .i64 0, .sl true 6 [], .int .i64 0, .sl true 2 [], .int .i64 0, .int .i64 0] [], none⟩,
      ⟨some 46, .mkst [.int .i64 0, .str [], .int .i64 0, .sl true 4 []] [], none⟩,
      ⟨none, .stf 6 0 7 (.t 45), none⟩,
      ⟨none, .stf 7 0 4 (.t 46), none⟩,
      ⟨some 8, .mov (.c (.int .i64 20)), none⟩]) (.ret)) (.skip))) (.seq (.reg false [
      ⟨some 12, .mov (.c (.sl true 2 [])), none⟩]) (.seq (.reg false [
      ⟨some 13, .mov (.c (.bool false)), none⟩]) (.seq (.seq (.reg false [
      ⟨some 14, .mov (.c (.int .i64 0)), none⟩]) (.block 0 (.loop (sealringref54_Resume_l0)))) (sealringref54_Resume_r0)))))))))

def sealringref54_Resume : AFun := { nparams := 3, ntmps := 116, res := [.cell 6 7 true, .cell 7 4 true, .tmp 8], keep := false, body := sealringref54_Resume_b }
theorem sealringref54_Resume_body : sealringref54_Resume.body = sealringref54_Resume_b := rfl
theorem sealringref54_Resume_res : sealringref54_Resume.res = [.cell 6 7 true, .cell 7 4 true, .tmp 8] := rfl
theorem sealringref54_Resume_keep : sealringref54_Resume.keep = false := rfl

/-- sealring/sealringref54.Read : 125 -/
def sealringref54_Read_b : AC :=
  .seq (.reg false [
      ⟨some 2, .box (.t 0), none⟩,
      ⟨some 3, .box (.t 1), none⟩,
      ⟨some 4, .alloc [.str [], .int .i64 0, .str [], .int .i64 0, .sl true 4 [], .int .i64 0, .int .i64 0], none⟩,
      ⟨some 5, .mov (.c (.int .i64 0)), none⟩]) (.seq (.seq (.reg false [
      ⟨some 8, .ldf 2 0 7 true, none⟩,
      ⟨some 9, .call 109 [.t 8], none⟩,
      ⟨some 6, .mov (.t 9), none⟩]) (.seq (.reg false [
      ⟨some 10, .mov (.t 6), none⟩,
      ⟨some 11, .bin .neq (.t 10) (.c (.int .i64 0)), none⟩]) (.cond (.t 11) (.seq (.reg false [
      ⟨some 12, .mkst [.str [], .int .i64 0, .str [], .int .i64 0, .sl true 4 [], .int .i64 0, .int .i64 0] [], none⟩,
      ⟨some 13, .mov (.t 6), none⟩,
      ⟨none, .stf 4 0 7 (.t 12), none⟩,
      ⟨some 5, .mov (.t 13), none⟩]) (.ret)) (.skip)))) (.seq (.seq (.reg false [
      ⟨some 14, .ldf 3 0 4 true, none⟩,
      ⟨some 15, .call 126 [.t 14], none⟩,
      ⟨some 16, .bin .neq (.t 15) (.c (.int .i64 0)), none⟩,
      ⟨some 17, .mov (.t 16), none⟩,
      ⟨some 18, .ldf 3 0 4 true, some (17, false)⟩,
      ⟨some 19, .call 132 [.t 18, .c (.str [101, 110, 99])], some (17, false)⟩,
      ⟨some 20, .un .not (.t 19), some (17, false)⟩,
      ⟨some 21, .pick (.t 17) (.c (.bool true)) (.t 20), none⟩]) (.cond (.t 21) (.seq (.reg false [
      ⟨some 22, .mkst [.str [], .int .i64 0, .str [], .int .i64 0, .sl true 4 [], .int .i64 0, .int .i64 0] [], none⟩,
      ⟨none, .stf 4 0 7 (.t 22), none⟩,
      ⟨some 5, .mov (.c (.int .i64 10)), none⟩]) (.ret)) (.skip))) (.seq (.reg false [
      ⟨some 23, .fad 3 3, none⟩,
      ⟨some 24, .ldf 3 3 1 false, none⟩,
      ⟨some 25, .idxa 4 (.t 24) (.c (.int .i64 0)), none⟩,
      ⟨some 26, .ld 25 4 true, none⟩,
      ⟨some 27, .call 133 [.t 26], none⟩,
      ⟨some 7, .mvs 27, none⟩]) (.seq (.seq (.reg false [
      ⟨some 28, .mov (.t 7), none⟩,
      ⟨some 29, .lenl (.t 28), none⟩,
      ⟨some 30, .bin .neq (.t 29) (.c (.int .i64 4)), none⟩,
      ⟨some 31, .mov (.t 30), none⟩,
      ⟨some 32, .mov (.t 7), some (31, false)⟩,
      ⟨some 33, .idxa 4 (.t 32) (.c (.int .i64 0)), some (31, false)⟩,
      ⟨some 34, .fadr 33 0, some (31, false)⟩,
      ⟨some 35, .ld 34 1 false, some (31, false)⟩,
      ⟨some 36, .bin .neq (.t 35) (.c (.int .i64 2)), some (31, false)⟩,
      ⟨some 37, .pick (.t 31) (.c (.bool true)) (.t 36), none⟩,
      ⟨some 38, .mov (.t 37), none⟩,
      ⟨some 39, .mov (.t 7), some (38, false)⟩,
      ⟨some 40, .idxa 4 (.t 39) (.c (.int .i64 0)), some (38, false)⟩,
      ⟨some 41, .fadr 40 2, some (38, false)⟩,
      ⟨some 42, .ld 41 1 false, some (38, false)⟩,
      ⟨some 43, .bin .neq (.t 42) (.c (.int .i64 1)), some (38, false)⟩,
      ⟨some 44, .pick (.t 38) (.c (.bool true)) (.t 43), none⟩,
      ⟨some 45, .mov (.t 44), none⟩,
      ⟨some 46, .mov (.t 7), some (45, false)⟩,
      ⟨some 47, .idxa 4 (.t 46) (.c (.int .i64 1)), some (45, false)⟩,
      ⟨some 48, .fadr 47 0, some (45, false)⟩,
      ⟨some 49, .ld 48 1 false, some (45, false)⟩,
      ⟨some 50, .bin .neq (.t 49) (.c (.int .i64 2)), some (45, false)⟩,
      ⟨some 51, .pick (.t 45) (.c (.bool true)) (.t 50), none⟩,
      ⟨some 52, .mov (.t 51), none⟩,
      ⟨some 53, .mov (.t 7), some (52, false)⟩,
      ⟨some 54, .idxa 4 (.t 53) (.c (.int .i64 1)), some (52, false)⟩,
      ⟨some 55, .fadr 54 2, some (52, false)⟩,
      ⟨some 56, .ld 55 1 false, some (52, false)⟩,
      ⟨some 57, .bin .neq (.t 56) (.c (.int .i64 3)), some (52, false)⟩,
      ⟨some 58, .pick (.t 52) (.c (.bool true)) (.t 57), none⟩,
      ⟨some 59, .mov (.t 58), none⟩,
      ⟨some 60, .mov (.t 7), some (59, false)⟩,
      ⟨some 61, .idxa 4 (.t 60) (.c (.int .i64 2)), some (59, false)⟩,
      ⟨some 62, .ld 61 4 true, some (59, false)⟩,
      ⟨some 63, .call 134 [.t 62], some (59, false)⟩,
      ⟨some 64, .bin .lss (.t 63) (.c (.int .i64 0)), some (59, false)⟩,
      ⟨some 65, .pick (.t 59) (.c (.bool true)) (.t 64), none⟩,
      ⟨some 66, .mov (.t 65), none⟩,
      ⟨some 67, .mov (.t 7), some (66, false)⟩,
      ⟨some 68, .idxa 4 (.t 67) (.c (.int .i64 3)), some (66, false)⟩,
      ⟨some 69, .ld 68 4 true, some (66, false)⟩,
      ⟨some 70, .call 134 [.t 69], some (66, false)⟩,
      ⟨some 71, .bin .lss (.t 70) (.c (.int .i64 0)), some (66, false)⟩,
      ⟨some 72, .pick (.t 66) (.c (.bool true)) (.t 71), none⟩]) (.cond (.t 72) (.seq (.reg false [
      ⟨some 73, .mkst [.str [], .int .i64 0, .str [], .int .i64 0, .sl true 4 [], .int .i64 0, .int .i64 0] [], none⟩,
      ⟨none, .stf 4 0 7 (.t 73), none⟩,
      ⟨some 5, .mov (.c (.int .i64 10)), none⟩]) (.ret)) (.skip))) (.seq (.seq (.reg true [
      ⟨some 74, .ldf 2 0 7 true, none⟩,
      ⟨some 75, .fad 3 3, none⟩,
      ⟨some 76, .ldf 3 3 1 false, none⟩,
      ⟨some 77, .idxa 4 (.t 76) (.c (.int .i64 1)), none⟩,
      ⟨some 78, .ld 77 4 true, none⟩,
      ⟨some 79, .call 135 [.t 74, .t 78], none⟩,
      ⟨some 80, .un .not (.t 79), none⟩]) (.cond (.t 80) (.seq (.reg false [
      ⟨some 81, .mkst [.str [], .int .i64 0, .str [], .int .i64 0, .sl true 4 [], .int .i64 0, .int .i64 0] [], none⟩,
      ⟨none, .stf 4 0 7 (.t 81), none⟩,
      ⟨some 5, .mov (.c (.int .i64 4)), none⟩]) (.ret)) (.skip))) (.seq (.reg true [
      ⟨some 82, .mov (.t 7), none⟩,
      ⟨some 83, .idxa 4 (.t 82) (.c (.int .i64 0)), none⟩,
      ⟨some 84, .fadr 83 1, none⟩,
      ⟨some 85, .ld 84 1 false, none⟩,
      ⟨some 86, .mov (.t 7), none⟩,
      ⟨some 87, .idxa 4 (.t 86) (.c (.int .i64 1)), none⟩,
      ⟨some 88, .ld 87 4 true, none⟩,
      ⟨some 89, .mov (.t 7), none⟩,
      ⟨some 90, .idxa 4 (.t 89) (.c (.int .i64 2)), none⟩,
      ⟨some 91, .ld 90 4 true, none⟩,
      ⟨some 92, .call 134 [.t 91], none⟩,
      ⟨some 93, .mov (.t 7), none⟩,
      ⟨some 94, .idxa 4 (.t 93) (.c (.int .i64 3)), none⟩,
      ⟨some 95, .ld 94 4 true, none⟩,
      ⟨some 96, .call 134 [.t 95], none⟩,
      ⟨some 97, .mkst [.str [], .int .i64 0, .str [], .int .i64 0, .sl true 4 [], .int .i64 0, .int .i64 0] [(0, 1, .t 85), (1, 4, .t 88), (5, 1, .t 92), (6, 1, .t 96)], none⟩,
      ⟨none, .stf 4 0 7 (.t 97), none⟩,
      ⟨some 5, .mov (.c (.int .i64 0)), none⟩]) (.ret)))))))

def sealringref54_Read : AFun := { nparams := 2, ntmps := 98, res := [.cell 4 7 true, .tmp 5], keep := false, body := sealringref54_Read_b }
theorem sealringref54_Read_body : sealringref54_Read.body = sealringref54_Read_b := rfl
theorem sealringref54_Read_res : sealringref54_Read.res = [.cell 4 7 true, .tmp 5] := rfl
theorem sealringref54_Read_keep : sealringref54_Read.keep = false := rfl

/-- sealring/sealringref09.Valid : 126 -/
def sealringref09_Valid_b : AC :=
  .seq (.reg false [
      ⟨some 1, .box (.t 0), none⟩,
      ⟨some 2, .mov (.c (.int .i64 0)), none⟩]) (.seq (.seq (.reg false [
      ⟨some 4, .ldf 1 0 4 true, none⟩,
      ⟨some 5, .call 54 [.t 4], none⟩,
      ⟨some 3, .mov (.t 5), none⟩]) (.seq (.reg false [
      ⟨some 6, .mov (.t 3), none⟩,
      ⟨some 7, .bin .neq (.t 6) (.c (.int .i64 0)), none⟩]) (.cond (.t 7) (.seq (.reg false [
      ⟨some 8, .mov (.t 3), none⟩,
      ⟨some 2, .mov (.t 8), none⟩]) (.ret)) (.skip)))) (.seq (.reg false [
      ⟨some 9, .ldf 1 0 4 true, none⟩,
      ⟨some 10, .call 127 [.t 9], none⟩,
      ⟨some 2, .mov (.t 10), none⟩]) (.ret)))

def sealringref09_Valid : AFun := { nparams := 1, ntmps := 11, res := [.tmp 2], keep := false, body := sealringref09_Valid_b }
theorem sealringref09_Valid_body : sealringref09_Valid.body = sealringref09_Valid_b := rfl
theorem sealringref09_Valid_res : sealringref09_Valid.res = [.tmp 2] := rfl
theorem sealringref09_Valid_keep : sealringref09_Valid.keep = false := rfl

def sealringref09_nodes_l0 : AC :=
  .seq (.seq (.reg false [
      ⟨some 24, .mov (.t 4), none⟩,
      ⟨some 25, .fad 1 3, none⟩,
      ⟨some 26, .ldf 1 3 1 false, none⟩,
      ⟨some 27, .lenl (.t 26), none⟩,
      ⟨some 28, .bin .lss (.t 24) (.t 27), none⟩]) (.cond (.t 28) (.skip) (.exit 0))) (.seq (.block 1 (.seq (.reg false [
      ⟨some 31, .fad 1 3, none⟩,
      ⟨some 32, .ldf 1 3 1 false, none⟩,
      ⟨some 33, .mov (.t 4), none⟩,
      ⟨some 34, .idxa 4 (.t 32) (.t 33), none⟩,
      ⟨some 35, .ld 34 4 true, none⟩,
      ⟨some 36, .call 127 [.t 35], none⟩,
      ⟨some 5, .mov (.t 36), none⟩]) (.seq (.reg false [
      ⟨some 37, .mov (.t 5), none⟩,
      ⟨some 38, .bin .neq (.t 37) (.c (.int .i64 0)), none⟩]) (.cond (.t 38) (.seq (.reg false [
      ⟨some 39, .mov (.t 5), none⟩,
      ⟨some 2, .mov (.t 39), none⟩]) (.ret)) (.skip))))) (.reg false [
      ⟨some 29, .mov (.t 4), none⟩,
      ⟨some 30, .bin .add (.t 29) (.c (.int .i64 1)), none⟩,
      ⟨some 4, .mov (.t 30), none⟩]))

def sealringref09_nodes_r0 : AC :=
  .seq (.reg false [
      ⟨some 2, .mov (.c (.int .i64 0)), none⟩]) (.ret)

/-- sealring/sealringref09.nodes : 127 -/
def sealringref09_nodes_b : AC :=
  .seq (.reg false [
      ⟨some 1, .box (.t 0), none⟩,
      ⟨some 2, .mov (.c (.int .i64 0)), none⟩]) (.seq (.seq (.reg false [
      ⟨some 6, .fad 1 0, none⟩,
      ⟨some 7, .ldf 1 0 1 false, none⟩,
      ⟨some 8, .bin .neq (.t 7) (.c (.int .i64 3)), none⟩]) (.cond (.t 8) (.seq (.reg false [
      ⟨some 2, .mov (.c (.int .i64 0)), none⟩]) (.ret)) (.skip))) (.seq (.reg false [
      ⟨some 9, .fad 1 1, none⟩,
      ⟨some 10, .ldf 1 1 1 false, none⟩,
      ⟨some 11, .call 128 [.t 10], none⟩,
      ⟨some 3, .mov (.t 11), none⟩]) (.seq (.seq (.reg false [
      ⟨some 12, .mov (.t 3), none⟩,
      ⟨some 13, .bin .eql (.t 12) (.c (.int .i64 0)), none⟩]) (.cond (.t 13) (.seq (.reg false [
      ⟨some 2, .mov (.c (.int .i64 10)), none⟩]) (.ret)) (.skip))) (.seq (.seq (.reg false [
      ⟨some 14, .ldf 1 0 4 true, none⟩,
      ⟨some 15, .call 130 [.t 14], none⟩,
      ⟨some 16, .un .not (.t 15), none⟩]) (.cond (.t 16) (.seq (.reg false [
      ⟨some 2, .mov (.c (.int .i64 6)), none⟩]) (.ret)) (.skip))) (.seq (.seq (.reg false [
      ⟨some 17, .mov (.t 3), none⟩,
      ⟨some 18, .bin .eql (.t 17) (.c (.int .i64 2)), none⟩,
      ⟨some 19, .mov (.t 18), none⟩,
      ⟨some 20, .ldf 1 0 4 true, some (19, true)⟩,
      ⟨some 21, .call 131 [.t 20], some (19, true)⟩,
      ⟨some 22, .un .not (.t 21), some (19, true)⟩,
      ⟨some 23, .pick (.t 19) (.t 22) (.c (.bool false)), none⟩]) (.cond (.t 23) (.seq (.reg false [
      ⟨some 2, .mov (.c (.int .i64 10)), none⟩]) (.ret)) (.skip))) (.seq (.seq (.reg false [
      ⟨some 4, .mov (.c (.int .i64 0)), none⟩]) (.block 0 (.loop (sealringref09_nodes_l0)))) (sealringref09_nodes_r0)))))))

def sealringref09_nodes : AFun := { nparams := 1, ntmps := 40, res := [.tmp 2], keep := false, body := sealringref09_nodes_b }
theorem sealringref09_nodes_body : sealringref09_nodes.body = sealringref09_nodes_b := rfl
theorem sealringref09_nodes_res : sealringref09_nodes.res = [.tmp 2] := rfl
theorem sealringref09_nodes_keep : sealringref09_nodes.keep = false := rfl

def sealringref09_Kind_l0 : AC :=
  .seq (.seq (.reg false [
      ⟨some 6, .mov (.t 4), none⟩,
      ⟨some 7, .mov (.t 3), none⟩,
      ⟨some 8, .lenl (.t 7), none⟩,
      ⟨some 9, .bin .lss (.t 6) (.t 8), none⟩]) (.cond (.t 9) (.skip) (.exit 0))) (.seq (.block 1 (.seq (.reg false [
      ⟨some 12, .mov (.t 3), none⟩,
      ⟨some 13, .mov (.t 4), none⟩,
      ⟨some 14, .idxa 4 (.t 12) (.t 13), none⟩,
      ⟨some 15, .fadr 14 0, none⟩,
      ⟨some 16, .ld 15 1 false, none⟩,
      ⟨some 17, .mov (.t 0), none⟩,
      ⟨some 18, .bin .eql (.t 16) (.t 17), none⟩]) (.cond (.t 18) (.seq (.reg false [
      ⟨some 19, .mov (.t 3), none⟩,
      ⟨some 20, .mov (.t 4), none⟩,
      ⟨some 21, .idxa 4 (.t 19) (.t 20), none⟩,
      ⟨some 22, .fadr 21 3, none⟩,
      ⟨some 23, .ld 22 1 false, none⟩,
      ⟨some 2, .mov (.t 23), none⟩]) (.ret)) (.skip)))) (.reg false [
      ⟨some 10, .mov (.t 4), none⟩,
      ⟨some 11, .bin .add (.t 10) (.c (.int .i64 1)), none⟩,
      ⟨some 4, .mov (.t 11), none⟩]))

def sealringref09_Kind_r0 : AC :=
  .seq (.reg false [
      ⟨some 2, .mov (.c (.int .i64 0)), none⟩]) (.ret)

/-- sealring/sealringref09.Kind : 128 -/
def sealringref09_Kind_b : AC :=
  .seq (.reg false [
      ⟨some 2, .mov (.c (.int .i64 0)), none⟩]) (.seq (.reg false [
      ⟨some 5, .call 129 [], none⟩,
      ⟨some 3, .mvs 5, none⟩]) (.seq (.seq (.reg false [
      ⟨some 4, .mov (.c (.int .i64 0)), none⟩]) (.block 0 (.loop (sealringref09_Kind_l0)))) (sealringref09_Kind_r0)))

def sealringref09_Kind : AFun := { nparams := 1, ntmps := 24, res := [.tmp 2], keep := false, body := sealringref09_Kind_b }
theorem sealringref09_Kind_body : sealringref09_Kind.body = sealringref09_Kind_b := rfl
theorem sealringref09_Kind_res : sealringref09_Kind.res = [.tmp 2] := rfl
theorem sealringref09_Kind_keep : sealringref09_Kind.keep = false := rfl

/-- sealring/sealringref09.Symbols : 129 -/
def sealringref09_Symbols_b : AC :=
  .seq (.reg false [
      ⟨some 0, .mov (.c (.sl true 4 [])), none⟩]) (.seq (.reg false [
      ⟨some 1, .mkst [.str [], .int .i64 0, .int .i64 0, .int .i64 0] [(0, 1, .c (.str [112, 97, 105, 114])), (1, 1, .c (.int .i64 2)), (2, 1, .c (.int .i64 2)), (3, 1, .c (.int .i64 1))], none⟩,
      ⟨some 2, .mkst [.str [], .int .i64 0, .int .i64 0, .int .i64 0] [(0, 1, .c (.str [101, 110, 99])), (1, 1, .c (.int .i64 2)), (2, 1, .c (.int .i64 2)), (3, 1, .c (.int .i64 1))], none⟩,
      ⟨some 3, .mkst [.str [], .int .i64 0, .int .i64 0, .int .i64 0] [(0, 1, .c (.str [97, 101, 110, 99])), (1, 1, .c (.int .i64 2)), (2, 1, .c (.int .i64 2)), (3, 1, .c (.int .i64 1))], none⟩,
      ⟨some 4, .mkst [.str [], .int .i64 0, .int .i64 0, .int .i64 0] [(0, 1, .c (.str [112, 107])), (1, 1, .c (.int .i64 1)), (2, 1, .c (.int .i64 1)), (3, 1, .c (.int .i64 1))], none⟩,
      ⟨some 5, .mkst [.str [], .int .i64 0, .int .i64 0, .int .i64 0] [(0, 1, .c (.str [115, 105, 103, 110])), (1, 1, .c (.int .i64 2)), (2, 1, .c (.int .i64 2)), (3, 1, .c (.int .i64 1))], none⟩,
      ⟨some 6, .mkst [.str [], .int .i64 0, .int .i64 0, .int .i64 0] [(0, 1, .c (.str [104, 97, 115, 104])), (1, 1, .c (.int .i64 1)), (2, 1, .c (.int .i64 1)), (3, 1, .c (.int .i64 1))], none⟩,
      ⟨some 7, .mkst [.str [], .int .i64 0, .int .i64 0, .int .i64 0] [(0, 1, .c (.str [120, 111, 114])), (1, 1, .c (.int .i64 2)), (2, 1, .c (.int .i64 8)), (3, 1, .c (.int .i64 1))], none⟩,
      ⟨some 8, .mkst [.str [], .int .i64 0, .int .i64 0, .int .i64 0] [(0, 1, .c (.str [122, 101, 114, 111])), (3, 1, .c (.int .i64 1))], none⟩,
      ⟨some 9, .mkst [.str [], .int .i64 0, .int .i64 0, .int .i64 0] [(0, 1, .c (.str [101, 120, 112])), (1, 1, .c (.int .i64 2)), (2, 1, .c (.int .i64 2)), (3, 1, .c (.int .i64 1))], none⟩,
      ⟨some 10, .mkst [.str [], .int .i64 0, .int .i64 0, .int .i64 0] [(0, 1, .c (.str [109, 117, 108])), (1, 1, .c (.int .i64 2)), (2, 1, .c (.int .i64 8)), (3, 1, .c (.int .i64 1))], none⟩,
      ⟨some 11, .mkst [.str [], .int .i64 0, .int .i64 0, .int .i64 0] [(0, 1, .c (.str [105, 110, 118])), (1, 1, .c (.int .i64 1)), (2, 1, .c (.int .i64 1)), (3, 1, .c (.int .i64 1))], none⟩,
      ⟨some 12, .mkst [.str [], .int .i64 0, .int .i64 0, .int .i64 0] [(0, 1, .c (.str [111, 110, 101])), (3, 1, .c (.int .i64 1))], none⟩,
      ⟨some 13, .mkst [.str [], .int .i64 0, .int .i64 0, .int .i64 0] [(0, 1, .c (.str [115, 107])), (1, 1, .c (.int .i64 1)), (2, 1, .c (.int .i64 1)), (3, 1, .c (.int .i64 2))], none⟩,
      ⟨some 14, .mkst [.str [], .int .i64 0, .int .i64 0, .int .i64 0] [(0, 1, .c (.str [115, 104, 107])), (1, 1, .c (.int .i64 2)), (2, 1, .c (.int .i64 2)), (3, 1, .c (.int .i64 2))], none⟩,
      ⟨some 15, .mkst [.str [], .int .i64 0, .int .i64 0, .int .i64 0] [(0, 1, .c (.str [110, 101, 119])), (1, 1, .c (.int .i64 1)), (2, 1, .c (.int .i64 8)), (3, 1, .c (.int .i64 2))], none⟩,
      ⟨some 16, .mkst [.str [], .int .i64 0, .int .i64 0, .int .i64 0] [(0, 1, .c (.str [102, 115, 116])), (1, 1, .c (.int .i64 1)), (2, 1, .c (.int .i64 1)), (3, 1, .c (.int .i64 3))], none⟩,
      ⟨some 17, .mkst [.str [], .int .i64 0, .int .i64 0, .int .i64 0] [(0, 1, .c (.str [115, 110, 100])), (1, 1, .c (.int .i64 1)), (2, 1, .c (.int .i64 1)), (3, 1, .c (.int .i64 3))], none⟩,
      ⟨some 18, .mkst [.str [], .int .i64 0, .int .i64 0, .int .i64 0] [(0, 1, .c (.str [100, 101, 99])), (1, 1, .c (.int .i64 2)), (2, 1, .c (.int .i64 2)), (3, 1, .c (.int .i64 3))], none⟩,
      ⟨some 19, .mkst [.str [], .int .i64 0, .int .i64 0, .int .i64 0] [(0, 1, .c (.str [97, 100, 101, 99])), (1, 1, .c (.int .i64 2)), (2, 1, .c (.int .i64 2)), (3, 1, .c (.int .i64 3))], none⟩,
      ⟨some 20, .mkst [.str [], .int .i64 0, .int .i64 0, .int .i64 0] [(0, 1, .c (.str [111, 112, 101, 110])), (1, 1, .c (.int .i64 2)), (2, 1, .c (.int .i64 2)), (3, 1, .c (.int .i64 3))], none⟩,
      ⟨some 21, .mkst [.str [], .int .i64 0, .int .i64 0, .int .i64 0] [(0, 1, .c (.str [114, 101, 97, 100])), (1, 1, .c (.int .i64 1)), (2, 1, .c (.int .i64 1)), (3, 1, .c (.int .i64 3))], none⟩,
      ⟨some 22, .mksl 4 [.t 1, .t 2, .t 3, .t 4, .t 5, .t 6, .t 7, .t 8, .t 9, .t 10, .t 11, .t 12, .t 13, .t 14, .t 15, .t 16, .t 17, .t 18, .t 19, .t 20, .t 21], none⟩,
      ⟨some 0, .mvs 22, none⟩]) (.ret))

def sealringref09_Symbols : AFun := { nparams := 0, ntmps := 23, res := [.tmp 0], keep := false, body := sealringref09_Symbols_b }
theorem sealringref09_Symbols_body : sealringref09_Symbols.body = sealringref09_Symbols_b := rfl
theorem sealringref09_Symbols_res : sealringref09_Symbols.res = [.tmp 0] := rfl
theorem sealringref09_Symbols_keep : sealringref09_Symbols.keep = false := rfl

def sealringref09_fits_l0 : AC :=
  .seq (.seq (.reg false [
      ⟨some 6, .mov (.t 4), none⟩,
      ⟨some 7, .mov (.t 3), none⟩,
      ⟨some 8, .lenl (.t 7), none⟩,
      ⟨some 9, .bin .lss (.t 6) (.t 8), none⟩]) (.cond (.t 9) (.skip) (.exit 0))) (.seq (.block 1 (.seq (.reg true [
      ⟨some 12, .mov (.t 3), none⟩,
      ⟨some 13, .mov (.t 4), none⟩,
      ⟨some 14, .idxa 4 (.t 12) (.t 13), none⟩,
      ⟨some 15, .fadr 14 0, none⟩,
      ⟨some 16, .ld 15 1 false, none⟩,
      ⟨some 17, .fad 1 1, none⟩,
      ⟨some 18, .ldf 1 1 1 false, none⟩,
      ⟨some 19, .bin .eql (.t 16) (.t 18), none⟩]) (.cond (.t 19) (.seq (.reg true [
      ⟨some 20, .fad 1 3, none⟩,
      ⟨some 21, .ldf 1 3 1 false, none⟩,
      ⟨some 22, .lenl (.t 21), none⟩,
      ⟨some 23, .mov (.t 3), none⟩,
      ⟨some 24, .mov (.t 4), none⟩,
      ⟨some 25, .idxa 4 (.t 23) (.t 24), none⟩,
      ⟨some 26, .fadr 25 1, none⟩,
      ⟨some 27, .ld 26 1 false, none⟩,
      ⟨some 28, .bin .geq (.t 22) (.t 27), none⟩,
      ⟨some 29, .mov (.t 28), none⟩,
      ⟨some 30, .fad 1 3, some (29, true)⟩,
      ⟨some 31, .ldf 1 3 1 false, some (29, true)⟩,
      ⟨some 32, .lenl (.t 31), some (29, true)⟩,
      ⟨some 33, .mov (.t 3), some (29, true)⟩,
      ⟨some 34, .mov (.t 4), some (29, true)⟩,
      ⟨some 35, .idxa 4 (.t 33) (.t 34), some (29, true)⟩,
      ⟨some 36, .fadr 35 2, some (29, true)⟩,
      ⟨some 37, .ld 36 1 false, some (29, true)⟩,
      ⟨some 38, .bin .leq (.t 32) (.t 37), some (29, true)⟩,
      ⟨some 39, .pick (.t 29) (.t 38) (.c (.bool false)), none⟩,
      ⟨some 2, .mov (.t 39), none⟩]) (.ret)) (.skip)))) (.reg false [
      ⟨some 10, .mov (.t 4), none⟩,
      ⟨some 11, .bin .add (.t 10) (.c (.int .i64 1)), none⟩,
      ⟨some 4, .mov (.t 11), none⟩]))

def sealringref09_fits_r0 : AC :=
  .seq (.reg false [
      ⟨some 2, .mov (.c (.bool false)), none⟩]) (.ret)

/-- sealring/sealringref09.fits : 130 -/
def sealringref09_fits_b : AC :=
  .seq (.reg false [
      ⟨some 1, .box (.t 0), none⟩,
      ⟨some 2, .mov (.c (.bool false)), none⟩]) (.seq (.reg false [
      ⟨some 5, .call 129 [], none⟩,
      ⟨some 3, .mvs 5, none⟩]) (.seq (.seq (.reg false [
      ⟨some 4, .mov (.c (.int .i64 0)), none⟩]) (.block 0 (.loop (sealringref09_fits_l0)))) (sealringref09_fits_r0)))

def sealringref09_fits : AFun := { nparams := 1, ntmps := 40, res := [.tmp 2], keep := false, body := sealringref09_fits_b }
theorem sealringref09_fits_body : sealringref09_fits.body = sealringref09_fits_b := rfl
theorem sealringref09_fits_res : sealringref09_fits.res = [.tmp 2] := rfl
theorem sealringref09_fits_keep : sealringref09_fits.keep = false := rfl

def sealringref09_agents_l0 : AC :=
  .seq (.seq (.reg false [
      ⟨some 13, .mov (.t 3), none⟩,
      ⟨some 14, .fad 1 3, none⟩,
      ⟨some 15, .ldf 1 3 1 false, none⟩,
      ⟨some 16, .lenl (.t 15), none⟩,
      ⟨some 17, .bin .lss (.t 13) (.t 16), none⟩]) (.cond (.t 17) (.skip) (.exit 0))) (.seq (.block 1 (.seq (.reg false [
      ⟨some 20, .fad 1 3, none⟩,
      ⟨some 21, .ldf 1 3 1 false, none⟩,
      ⟨some 22, .mov (.t 3), none⟩,
      ⟨some 23, .idxa 4 (.t 21) (.t 22), none⟩,
      ⟨some 24, .fadr 23 0, none⟩,
      ⟨some 25, .ld 24 1 false, none⟩,
      ⟨some 26, .bin .eql (.t 25) (.c (.int .i64 3)), none⟩,
      ⟨some 27, .mov (.t 26), none⟩,
      ⟨some 28, .fad 1 3, some (27, false)⟩,
      ⟨some 29, .ldf 1 3 1 false, some (27, false)⟩,
      ⟨some 30, .mov (.t 3), some (27, false)⟩,
      ⟨some 31, .idxa 4 (.t 29) (.t 30), some (27, false)⟩,
      ⟨some 32, .fadr 31 2, some (27, false)⟩,
      ⟨some 33, .ld 32 1 false, some (27, false)⟩,
      ⟨some 34, .bin .neq (.t 33) (.c (.int .i64 1)), some (27, false)⟩,
      ⟨some 35, .pick (.t 27) (.c (.bool true)) (.t 34), none⟩]) (.cond (.t 35) (.seq (.reg false [
      ⟨some 2, .mov (.c (.bool false)), none⟩]) (.ret)) (.skip)))) (.reg false [
      ⟨some 18, .mov (.t 3), none⟩,
      ⟨some 19, .bin .add (.t 18) (.c (.int .i64 1)), none⟩,
      ⟨some 3, .mov (.t 19), none⟩]))

def sealringref09_agents_r0 : AC :=
  .seq (.reg false [
      ⟨some 2, .mov (.c (.bool true)), none⟩]) (.ret)

/-- sealring/sealringref09.agents : 131 -/
def sealringref09_agents_b : AC :=
  .seq (.reg false [
      ⟨some 1, .box (.t 0), none⟩,
      ⟨some 2, .mov (.c (.bool false)), none⟩]) (.seq (.seq (.reg false [
      ⟨some 4, .fad 1 1, none⟩,
      ⟨some 5, .ldf 1 1 1 false, none⟩,
      ⟨some 6, .bin .eql (.t 5) (.c (.str [110, 101, 119])), none⟩]) (.cond (.t 6) (.seq (.reg false [
      ⟨some 7, .fad 1 3, none⟩,
      ⟨some 8, .ldf 1 3 1 false, none⟩,
      ⟨some 9, .idxa 4 (.t 8) (.c (.int .i64 0)), none⟩,
      ⟨some 10, .fadr 9 0, none⟩,
      ⟨some 11, .ld 10 1 false, none⟩,
      ⟨some 12, .bin .eql (.t 11) (.c (.int .i64 2)), none⟩,
      ⟨some 2, .mov (.t 12), none⟩]) (.ret)) (.skip))) (.seq (.seq (.reg false [
      ⟨some 3, .mov (.c (.int .i64 0)), none⟩]) (.block 0 (.loop (sealringref09_agents_l0)))) (sealringref09_agents_r0)))

def sealringref09_agents : AFun := { nparams := 1, ntmps := 36, res := [.tmp 2], keep := false, body := sealringref09_agents_b }
theorem sealringref09_agents_body : sealringref09_agents.body = sealringref09_agents_b := rfl
theorem sealringref09_agents_res : sealringref09_agents.res = [.tmp 2] := rfl
theorem sealringref09_agents_keep : sealringref09_agents.keep = false := rfl

/-- sealring/sealringref09.Is : 132 -/
def sealringref09_Is_b : AC :=
  .seq (.reg false [
      ⟨some 2, .box (.t 0), none⟩,
      ⟨some 4, .mov (.c (.bool false)), none⟩]) (.seq (.reg false [
      ⟨some 5, .fad 2 0, none⟩,
      ⟨some 6, .ldf 2 0 1 false, none⟩,
      ⟨some 7, .bin .eql (.t 6) (.c (.int .i64 3)), none⟩,
      ⟨some 8, .mov (.t 7), none⟩,
      ⟨some 9, .fad 2 1, some (8, true)⟩,
      ⟨some 10, .ldf 2 1 1 false, some (8, true)⟩,
      ⟨some 11, .mov (.t 1), some (8, true)⟩,
      ⟨some 12, .bin .eql (.t 10) (.t 11), some (8, true)⟩,
      ⟨some 13, .pick (.t 8) (.t 12) (.c (.bool false)), none⟩,
      ⟨some 4, .mov (.t 13), none⟩]) (.ret))

def sealringref09_Is : AFun := { nparams := 2, ntmps := 14, res := [.tmp 4], keep := false, body := sealringref09_Is_b }
theorem sealringref09_Is_body : sealringref09_Is.body = sealringref09_Is_b := rfl
theorem sealringref09_Is_res : sealringref09_Is.res = [.tmp 4] := rfl
theorem sealringref09_Is_keep : sealringref09_Is.keep = false := rfl

/-- sealring/sealringref09.Untuple : 133 -/
def sealringref09_Untuple_b : AC :=
  .seq (.reg false [
      ⟨some 1, .box (.t 0), none⟩,
      ⟨some 2, .mov (.c (.sl true 4 [])), none⟩]) (.seq (.seq (.reg false [
      ⟨some 3, .ldf 1 0 4 true, none⟩,
      ⟨some 4, .call 132 [.t 3, .c (.str [112, 97, 105, 114])], none⟩,
      ⟨some 5, .un .not (.t 4), none⟩,
      ⟨some 6, .mov (.t 5), none⟩,
      ⟨some 7, .fad 1 3, some (6, false)⟩,
      ⟨some 8, .ldf 1 3 1 false, some (6, false)⟩,
      ⟨some 9, .lenl (.t 8), some (6, false)⟩,
      ⟨some 10, .bin .neq (.t 9) (.c (.int .i64 2)), some (6, false)⟩,
      ⟨some 11, .pick (.t 6) (.c (.bool true)) (.t 10), none⟩]) (.cond (.t 11) (.seq (.reg false [
      ⟨some 12, .ldf 1 0 4 true, none⟩,
      ⟨some 13, .mksl 4 [.t 12], none⟩,
      ⟨some 2, .mvs 13, none⟩]) (.ret)) (.skip))) (.seq (.reg true [
      ⟨some 14, .fad 1 3, none⟩,
      ⟨some 15, .ldf 1 3 1 false, none⟩,
      ⟨some 16, .idxa 4 (.t 15) (.c (.int .i64 0)), none⟩,
      ⟨some 17, .ld 16 4 true, none⟩,
      ⟨some 18, .mksl 4 [.t 17], none⟩,
      ⟨some 19, .fad 1 3, none⟩,
      ⟨some 20, .ldf 1 3 1 false, none⟩,
      ⟨some 21, .idxa 4 (.t 20) (.c (.int .i64 1)), none⟩,
      ⟨some 22, .ld 21 4 true, none⟩,
      ⟨some 23, .call 133 [.t 22], none⟩,
      ⟨some 24, .app 56 4 (.t 18) (.t 23), none⟩,
      ⟨some 2, .mvs 24, none⟩]) (.ret)))

def sealringref09_Untuple : AFun := { nparams := 1, ntmps := 25, res := [.tmp 2], keep := false, body := sealringref09_Untuple_b }
theorem sealringref09_Untuple_body : sealringref09_Untuple.body = sealringref09_Untuple_b := rfl
theorem sealringref09_Untuple_res : sealringref09_Untuple.res = [.tmp 2] := rfl
theorem sealringref09_Untuple_keep : sealringref09_Untuple.keep = false := rfl

def sealringref54_number_l0 : AC :=
  .seq (.seq (.reg false [
      ⟨some 26, .mov (.t 4), none⟩,
      ⟨some 27, .fad 1 1, none⟩,
      ⟨some 28, .ldf 1 1 1 false, none⟩,
      ⟨some 29, .lens (.t 28), none⟩,
      ⟨some 30, .bin .lss (.t 26) (.t 29), none⟩]) (.cond (.t 30) (.skip) (.exit 0))) (.seq (.block 1 (.seq (.reg false [
      ⟨some 33, .fad 1 1, none⟩,
      ⟨some 34, .ldf 1 1 1 false, none⟩,
      ⟨some 35, .mov (.t 4), none⟩,
      ⟨some 36, .idx (.t 34) (.t 35), none⟩,
      ⟨some 5, .mov (.t 36), none⟩]) (.seq (.seq (.reg false [
      ⟨some 37, .mov (.t 5), none⟩,
      ⟨some 38, .bin .lss (.t 37) (.c (.int .u8 48)), none⟩,
      ⟨some 39, .mov (.t 38), none⟩,
      ⟨some 40, .mov (.t 5), some (39, false)⟩,
      ⟨some 41, .bin .gtr (.t 40) (.c (.int .u8 57)), some (39, false)⟩,
      ⟨some 42, .pick (.t 39) (.c (.bool true)) (.t 41), none⟩]) (.cond (.t 42) (.seq (.reg false [
      ⟨some 2, .mov (.c (.int .i64 (-1))), none⟩]) (.ret)) (.skip))) (.seq (.reg false [
      ⟨some 43, .mov (.t 3), none⟩,
      ⟨some 44, .bin .mul (.c (.int .i64 10)) (.t 43), none⟩,
      ⟨some 45, .mov (.t 5), none⟩,
      ⟨some 46, .bin .sub (.t 45) (.c (.int .u8 48)), none⟩,
      ⟨some 47, .conv .i64 (.t 46), none⟩,
      ⟨some 48, .bin .add (.t 44) (.t 47), none⟩,
      ⟨some 3, .mov (.t 48), none⟩]) (.seq (.reg false [
      ⟨some 49, .mov (.t 3), none⟩,
      ⟨some 50, .bin .gtr (.t 49) (.c (.int .i64 1000000)), none⟩]) (.cond (.t 50) (.seq (.reg false [
      ⟨some 2, .mov (.c (.int .i64 (-1))), none⟩]) (.ret)) (.skip))))))) (.reg false [
      ⟨some 31, .mov (.t 4), none⟩,
      ⟨some 32, .bin .add (.t 31) (.c (.int .i64 1)), none⟩,
      ⟨some 4, .mov (.t 32), none⟩]))

def sealringref54_number_r0 : AC :=
  .seq (.seq (.reg true [
      ⟨some 51, .mov (.t 3), none⟩,
      ⟨some 52, .call 106 [.t 51], none⟩,
      ⟨some 53, .fad 1 1, none⟩,
      ⟨some 54, .ldf 1 1 1 false, none⟩,
      ⟨some 55, .slcs (.t 54) (some (.c (.int .i64 2))) none, none⟩,
      ⟨some 56, .bin .neq (.t 52) (.t 55), none⟩]) (.cond (.t 56) (.seq (.reg false [
      ⟨some 2, .mov (.c (.int .i64 (-1))), none⟩]) (.ret)) (.skip))) (.seq (.reg false [
      ⟨some 57, .mov (.t 3), none⟩,
      ⟨some 2, .mov (.t 57), none⟩]) (.ret))

/-- sealring/sealringref54.number : 134 -/
def sealringref54_number_b : AC :=
  .seq (.reg false [
      ⟨some 1, .box (.t 0), none⟩,
      ⟨some 2, .mov (.c (.int .i64 0)), none⟩]) (.seq (.seq (.reg false [
      ⟨some 6, .fad 1 0, none⟩,
      ⟨some 7, .ldf 1 0 1 false, none⟩,
      ⟨some 8, .bin .neq (.t 7) (.c (.int .i64 2)), none⟩,
      ⟨some 9, .mov (.t 8), none⟩,
      ⟨some 10, .fad 1 2, some (9, false)⟩,
      ⟨some 11, .ldf 1 2 1 false, some (9, false)⟩,
      ⟨some 12, .bin .neq (.t 11) (.c (.int .i64 4)), some (9, false)⟩,
      ⟨some 13, .pick (.t 9) (.c (.bool true)) (.t 12), none⟩,
      ⟨some 14, .mov (.t 13), none⟩,
      ⟨some 15, .fad 1 1, some (14, false)⟩,
      ⟨some 16, .ldf 1 1 1 false, some (14, false)⟩,
      ⟨some 17, .lens (.t 16), some (14, false)⟩,
      ⟨some 18, .bin .lss (.t 17) (.c (.int .i64 3)), some (14, false)⟩,
      ⟨some 19, .pick (.t 14) (.c (.bool true)) (.t 18), none⟩,
      ⟨some 20, .mov (.t 19), none⟩,
      ⟨some 21, .fad 1 1, some (20, false)⟩,
      ⟨some 22, .ldf 1 1 1 false, some (20, false)⟩,
      ⟨some 23, .slcs (.t 22) none (some (.c (.int .i64 2))), some (20, false)⟩,
      ⟨some 24, .bin .neq (.t 23) (.c (.str [110, 35])), some (20, false)⟩,
      ⟨some 25, .pick (.t 20) (.c (.bool true)) (.t 24), none⟩]) (.cond (.t 25) (.seq (.reg false [
      ⟨some 2, .mov (.c (.int .i64 (-1))), none⟩]) (.ret)) (.skip))) (.seq (.reg false [
      ⟨some 3, .mov (.c (.int .i64 0)), none⟩]) (.seq (.seq (.reg false [
      ⟨some 4, .mov (.c (.int .i64 2)), none⟩]) (.block 0 (.loop (sealringref54_number_l0)))) (sealringref54_number_r0))))

def sealringref54_number : AFun := { nparams := 1, ntmps := 58, res := [.tmp 2], keep := false, body := sealringref54_number_b }
theorem sealringref54_number_body : sealringref54_number.body = sealringref54_number_b := rfl
theorem sealringref54_number_res : sealringref54_number.res = [.tmp 2] := rfl
theorem sealringref54_number_keep : sealringref54_number.keep = false := rfl

def sealringref54_has_l0 : AC :=
  .seq (.seq (.reg false [
      ⟨some 6, .mov (.t 5), none⟩,
      ⟨some 7, .fad 2 2, none⟩,
      ⟨some 8, .ldf 2 2 1 false, none⟩,
      ⟨some 9, .lenl (.t 8), none⟩,
      ⟨some 10, .bin .lss (.t 6) (.t 9), none⟩]) (.cond (.t 10) (.skip) (.exit 0))) (.seq (.block 1 (.seq (.reg true [
      ⟨some 13, .fad 2 2, none⟩,
      ⟨some 14, .ldf 2 2 1 false, none⟩,
      ⟨some 15, .mov (.t 5), none⟩,
      ⟨some 16, .idxa 6 (.t 14) (.t 15), none⟩,
      ⟨some 17, .fadr 16 2, none⟩,
      ⟨some 18, .ld 17 4 true, none⟩,
      ⟨some 19, .ldf 3 0 4 true, none⟩,
      ⟨some 20, .call 89 [.t 18, .t 19], none⟩]) (.cond (.t 20) (.seq (.reg false [
      ⟨some 4, .mov (.c (.bool true)), none⟩]) (.ret)) (.skip)))) (.reg false [
      ⟨some 11, .mov (.t 5), none⟩,
      ⟨some 12, .bin .add (.t 11) (.c (.int .i64 1)), none⟩,
      ⟨some 5, .mov (.t 12), none⟩]))

def sealringref54_has_r0 : AC :=
  .seq (.reg false [
      ⟨some 4, .mov (.c (.bool false)), none⟩]) (.ret)

/-- sealring/sealringref54.has : 135 -/
def sealringref54_has_b : AC :=
  .seq (.reg false [
      ⟨some 2, .box (.t 0), none⟩,
      ⟨some 3, .box (.t 1), none⟩,
      ⟨some 4, .mov (.c (.bool false)), none⟩]) (.seq (.seq (.reg false [
      ⟨some 5, .mov (.c (.int .i64 0)), none⟩]) (.block 0 (.loop (sealringref54_has_l0)))) (sealringref54_has_r0))

def sealringref54_has : AFun := { nparams := 2, ntmps := 21, res := [.tmp 4], keep := false, body := sealringref54_has_b }
theorem sealringref54_has_body : sealringref54_has.body = sealringref54_has_b := rfl
theorem sealringref54_has_res : sealringref54_has.res = [.tmp 4] := rfl
theorem sealringref54_has_keep : sealringref54_has.keep = false := rfl

def sealringlaw54_TicketPlay_l0 : AC :=
  .seq (.reg false [
      ⟨some 32, .bin .lss (.t 31) (.t 30), none⟩]) (.seq (.cond (.t 32) (.skip) (.exit 0)) (.seq (.block 1 (.seq (.reg false [
      ⟨some 33, .idxa 3 (.t 29) (.t 31), none⟩,
      ⟨some 34, .ld 33 3 true, none⟩,
      ⟨some 7, .alloc [.int .u8 0, .int .u8 0, .int .u8 0], none⟩,
      ⟨none, .stf 7 0 3 (.t 34), none⟩]) (.seq (.reg true [
      ⟨some 35, .fad 5 0, none⟩,
      ⟨some 36, .ldf 5 0 7 true, none⟩,
      ⟨some 37, .fad 5 7, none⟩,
      ⟨some 38, .ldf 5 7 1 false, none⟩,
      ⟨some 39, .fad 7 2, none⟩,
      ⟨some 40, .ldf 7 2 1 false, none⟩,
      ⟨some 41, .bin .rem (.t 40) (.c (.int .u8 8)), none⟩,
      ⟨some 42, .conv .i64 (.t 41), none⟩,
      ⟨some 43, .bin .add (.t 38) (.t 42), none⟩,
      ⟨some 8, .alloc [.str [], .int .i64 0, .sl true 6 [], .int .i64 0, .sl true 2 [], .int .i64 0, .int .i64 0], none⟩,
      ⟨none, .stf 8 0 7 (.t 36), none⟩,
      ⟨some 9, .mov (.t 43), none⟩]) (.seq (.block 2 (.seq (.reg false [
      ⟨some 45, .fad 7 0, none⟩,
      ⟨some 46, .ldf 7 0 1 false, none⟩,
      ⟨some 47, .bin .rem (.t 46) (.c (.int .u8 4)), none⟩,
      ⟨some 48, .bin .eql (.t 47) (.c (.int .u8 0)), none⟩,
      ⟨some 44, .mov (.t 48), none⟩]) (.cond (.t 44) (.seq (.reg true [
      ⟨some 50, .ldf 8 0 7 true, none⟩,
      ⟨some 51, .call 114 [.t 50], none⟩,
      ⟨some 52, .fad 7 1, none⟩,
      ⟨some 53, .ldf 7 1 1 false, none⟩,
      ⟨some 54, .bin .rem (.t 53) (.c (.int .u8 3)), none⟩,
      ⟨some 55, .fad 7 1, none⟩,
      ⟨some 56, .ldf 7 1 1 false, none⟩,
      ⟨some 57, .bin .rem (.t 56) (.c (.int .u8 3)), none⟩,
      ⟨some 58, .bin .add (.t 57) (.c (.int .u8 1)), none⟩,
      ⟨some 59, .slcs (.c (.str [97, 98, 99])) (some (.t 54)) (some (.t 58)), none⟩,
      ⟨some 60, .mov (.t 9), none⟩,
      ⟨some 61, .call 25 [.t 51, .t 59, .t 60], none⟩,
      ⟨some 49, .mov (.t 61), none⟩,
      ⟨some 62, .ext (.t 49) 0, none⟩,
      ⟨some 63, .ext (.t 49) 1, none⟩,
      ⟨some 64, .ext (.t 49) 2, none⟩,
      ⟨some 65, .ext (.t 49) 3, none⟩,
      ⟨some 10, .alloc [.str [], .int .i64 0, .sl true 6 [], .int .i64 0, .sl true 2 [], .int .i64 0, .int .i64 0], none⟩,
      ⟨some 11, .alloc [.int .i64 0, .str [], .int .i64 0, .sl true 4 []], none⟩,
      ⟨some 12, .alloc [.int .i64 0, .str [], .int .i64 0, .sl true 4 []], none⟩,
      ⟨none, .stf 10 0 7 (.t 62), none⟩,
      ⟨none, .stf 11 0 4 (.t 63), none⟩,
      ⟨none, .stf 12 0 4 (.t 64), none⟩,
      ⟨some 13, .mov (.t 65), none⟩]) (.seq (.reg false [
      ⟨some 66, .mov (.t 13), none⟩,
      ⟨some 67, .bin .eql (.t 66) (.c (.int .i64 0)), none⟩]) (.cond (.t 67) (.reg false [
      ⟨some 68, .ldf 10 0 7 true, none⟩,
      ⟨none, .stf 8 0 7 (.t 68), none⟩]) (.skip)))) (.seq (.reg false [
      ⟨some 70, .fad 7 0, none⟩,
      ⟨some 71, .ldf 7 0 1 false, none⟩,
      ⟨some 72, .bin .rem (.t 71) (.c (.int .u8 4)), none⟩,
      ⟨some 73, .bin .eql (.t 72) (.c (.int .u8 1)), none⟩,
      ⟨some 74, .mov (.t 73), none⟩,
      ⟨some 75, .fad 5 8, some (74, true)⟩,
      ⟨some 76, .ldf 5 8 1 false, some (74, true)⟩,
      ⟨some 77, .lenl (.t 76), some (74, true)⟩,
      ⟨some 78, .bin .gtr (.t 77) (.c (.int .i64 0)), some (74, true)⟩,
      ⟨some 79, .pick (.t 74) (.t 78) (.c (.bool false)), none⟩,
      ⟨some 69, .mov (.t 79), none⟩]) (.cond (.t 69) (.seq (.reg true [
      ⟨some 81, .ldf 8 0 7 true, none⟩,
      ⟨some 82, .call 114 [.t 81], none⟩,
      ⟨some 83, .fad 5 8, none⟩,
      ⟨some 84, .ldf 5 8 1 false, none⟩,
      ⟨some 85, .fad 7 1, none⟩,
      ⟨some 86, .ldf 7 1 1 false, none⟩,
      ⟨some 87, .conv .i64 (.t 86), none⟩,
      ⟨some 88, .fad 5 8, none⟩,
      ⟨some 89, .ldf 5 8 1 false, none⟩,
      ⟨some 90, .lenl (.t 89), none⟩,
      ⟨some 91, .bin .rem (.t 87) (.t 90), none⟩,
      ⟨some 92, .idxa 4 (.t 84) (.t 91), none⟩,
      ⟨some 93, .ld 92 4 true, none⟩,
      ⟨some 94, .mov (.t 9), none⟩,
      ⟨some 95, .call 67 [.t 82, .t 93, .t 94], none⟩,
      ⟨some 80, .mov (.t 95), none⟩,
      ⟨some 96, .ext (.t 80) 0, none⟩,
      ⟨some 97, .ext (.t 80) 1, none⟩,
      ⟨some 98, .ext (.t 80) 2, none⟩,
      ⟨some 14, .alloc [.str [], .int .i64 0, .sl true 6 [], .int .i64 0, .sl true 2 [], .int .i64 0, .int .i64 0], none⟩,
      ⟨some 15, .alloc [.int .i64 0, .str [], .int .i64 0, .sl true 4 []], none⟩,
      ⟨none, .stf 14 0 7 (.t 96), none⟩,
      ⟨none, .stf 15 0 4 (.t 97), none⟩,
      ⟨some 16, .mov (.t 98), none⟩]) (.seq (.reg false [
      ⟨some 99, .mov (.t 16), none⟩,
      ⟨some 100, .bin .eql (.t 99) (.c (.int .i64 0)), none⟩]) (.cond (.t 100) (.reg false [
      ⟨some 101, .ldf 14 0 7 true, none⟩,
      ⟨none, .stf 8 0 7 (.t 101), none⟩]) (.skip)))) (.seq (.reg false [
      ⟨some 103, .fad 7 0, none⟩,
      ⟨some 104, .ldf 7 0 1 false, none⟩,
      ⟨some 105, .bin .rem (.t 104) (.c (.int .u8 4)), none⟩,
      ⟨some 106, .bin .eql (.t 105) (.c (.int .u8 2)), none⟩,
      ⟨some 102, .mov (.t 106), none⟩]) (.cond (.t 102) (.seq (.reg false [
      ⟨some 108, .ldf 8 0 7 true, none⟩,
      ⟨some 109, .call 114 [.t 108], none⟩,
      ⟨some 110, .mov (.t 9), none⟩,
      ⟨some 111, .call 64 [.t 109, .t 110], none⟩,
      ⟨some 107, .mov (.t 111), none⟩,
      ⟨some 112, .ext (.t 107) 0, none⟩,
      ⟨some 113, .ext (.t 107) 1, none⟩,
      ⟨some 17, .alloc [.str [], .int .i64 0, .sl true 6 [], .int .i64 0, .sl true 2 [], .int .i64 0, .int .i64 0], none⟩,
      ⟨none, .stf 17 0 7 (.t 112), none⟩,
      ⟨some 18, .mov (.t 113), none⟩]) (.seq (.reg false [
      ⟨some 114, .mov (.t 18), none⟩,
      ⟨some 115, .bin .eql (.t 114) (.c (.int .i64 0)), none⟩]) (.cond (.t 115) (.reg false [
      ⟨some 116, .ldf 17 0 7 true, none⟩,
      ⟨none, .stf 8 0 7 (.t 116), none⟩]) (.skip)))) (.seq (.reg false [
      ⟨some 118, .fad 7 0, none⟩,
      ⟨some 119, .ldf 7 0 1 false, none⟩,
      ⟨some 120, .bin .rem (.t 119) (.c (.int .u8 4)), none⟩,
      ⟨some 121, .bin .eql (.t 120) (.c (.int .u8 3)), none⟩,
      ⟨some 117, .mov (.t 121), none⟩]) (.cond (.t 117) (.reg false [
      ⟨some 122, .ldf 8 0 7 true, none⟩,
      ⟨some 123, .call 114 [.t 122], none⟩,
      ⟨some 124, .mov (.t 9), none⟩,
      ⟨some 125, .call 92 [.t 123, .t 124], none⟩,
      ⟨none, .stf 8 0 7 (.t 125), none⟩]) (.skip)))))))))) (.seq (.reg false [
      ⟨some 126, .ldf 5 0 10 true, none⟩,
      ⟨some 127, .ldf 7 0 3 true, none⟩,
      ⟨some 128, .call 138 [.t 126, .t 127], none⟩,
      ⟨none, .stf 5 0 10 (.t 128), none⟩]) (.seq (.reg false [
      ⟨some 129, .ldf 8 0 7 true, none⟩,
      ⟨some 130, .fad 5 0, none⟩,
      ⟨some 131, .ldf 5 0 7 true, none⟩,
      ⟨some 132, .call 108 [.t 129, .t 131], none⟩,
      ⟨some 133, .un .not (.t 132), none⟩,
      ⟨some 134, .mov (.t 133), none⟩,
      ⟨some 135, .ldf 8 0 7 true, some (134, false)⟩,
      ⟨some 136, .call 27 [.t 135], some (134, false)⟩,
      ⟨some 137, .bin .neq (.t 136) (.c (.int .i64 0)), some (134, false)⟩,
      ⟨some 138, .pick (.t 134) (.c (.bool true)) (.t 137), none⟩]) (.cond (.t 138) (.seq (.reg false [
      ⟨some 4, .mov (.c (.bool false)), none⟩]) (.ret)) (.skip)))))))) (.reg false [
      ⟨some 139, .bin .add (.t 31) (.c (.int .i64 1)), none⟩,
      ⟨some 31, .mov (.t 139), none⟩])))

def sealringlaw54_TicketPlay_r0 : AC :=
  .seq (.reg false [
      ⟨some 4, .mov (.c (.bool true)), none⟩]) (.ret)

/-- sealring/sealringlaw54.TicketPlay : 136 -/
def sealringlaw54_TicketPlay_b : AC :=
  .seq (.reg false [
      ⟨some 4, .mov (.c (.bool false)), none⟩]) (.seq (.seq (.reg false [
      ⟨some 19, .call 1 [], none⟩,
      ⟨some 20, .un .not (.t 19), none⟩,
      ⟨some 21, .mov (.t 20), none⟩,
      ⟨some 22, .mov (.t 1), some (21, false)⟩,
      ⟨some 23, .lenl (.t 22), some (21, false)⟩,
      ⟨some 24, .bin .gtr (.t 23) (.c (.int .i64 40)), some (21, false)⟩,
      ⟨some 25, .pick (.t 21) (.c (.bool true)) (.t 24), none⟩]) (.cond (.t 25) (.seq (.reg false [
      ⟨some 26, .call 1 [], none⟩,
      ⟨some 4, .mov (.t 26), none⟩]) (.ret)) (.skip))) (.seq (.reg false [
      ⟨some 27, .mov (.t 0), none⟩,
      ⟨some 28, .call 137 [.t 27, .c (.sl true 3 [])], none⟩,
      ⟨some 5, .alloc [.str [], .int .i64 0, .sl true 6 [], .int .i64 0, .sl true 2 [], .int .i64 0, .int .i64 0, .int .i64 0, .sl true 4 [], .sl true 4 []], none⟩,
      ⟨none, .stf 5 0 10 (.t 28), none⟩]) (.seq (.seq (.reg false [
      ⟨some 29, .mov (.t 1), none⟩,
      ⟨some 30, .lenl (.t 29), none⟩,
      ⟨some 31, .mov (.c (.int .i64 0)), none⟩]) (.block 0 (.loop (sealringlaw54_TicketPlay_l0)))) (sealringlaw54_TicketPlay_r0))))

def sealringlaw54_TicketPlay : AFun := { nparams := 2, ntmps := 140, res := [.tmp 4], keep := false, body := sealringlaw54_TicketPlay_b }
theorem sealringlaw54_TicketPlay_body : sealringlaw54_TicketPlay.body = sealringlaw54_TicketPlay_b := rfl
theorem sealringlaw54_TicketPlay_res : sealringlaw54_TicketPlay.res = [.tmp 4] := rfl
theorem sealringlaw54_TicketPlay_keep : sealringlaw54_TicketPlay.keep = false := rfl

def sealringref54_Played_l0 : AC :=
  .seq (.seq (.reg false [
      ⟨some 19, .mov (.t 8), none⟩,
      ⟨some 20, .mov (.t 1), none⟩,
      ⟨some 21, .lenl (.t 20), none⟩,
      ⟨some 22, .bin .lss (.t 19) (.t 21), none⟩]) (.cond (.t 22) (.skip) (.exit 0))) (.seq (.block 1 (.reg true [
      ⟨some 25, .ldf 7 0 10 true, none⟩,
      ⟨some 26, .mov (.t 1), none⟩,
      ⟨some 27, .mov (.t 8), none⟩,
      ⟨some 28, .idxa 3 (.t 26) (.t 27), none⟩,
      ⟨some 29, .ld 28 3 true, none⟩,
      ⟨some 30, .call 138 [.t 25, .t 29], none⟩,
      ⟨none, .stf 7 0 10 (.t 30), none⟩])) (.reg false [
      ⟨some 23, .mov (.t 8), none⟩,
      ⟨some 24, .bin .add (.t 23) (.c (.int .i64 1)), none⟩,
      ⟨some 8, .mov (.t 24), none⟩]))

def sealringref54_Played_r0 : AC :=
  .seq (.reg false [
      ⟨some 31, .ldf 7 0 10 true, none⟩,
      ⟨none, .stf 4 0 10 (.t 31), none⟩]) (.ret)

/-- sealring/sealringref54.Played : 137 -/
def sealringref54_Played_b : AC :=
  .seq (.reg false [
      ⟨some 4, .alloc [.str [], .int .i64 0, .sl true 6 [], .int .i64 0, .sl true 2 [], .int .i64 0, .int .i64 0, .int .i64 0, .sl true 4 [], .sl true 4 []], none⟩]) (.seq (.reg false [
      ⟨some 10, .mov (.t 0), none⟩,
      ⟨some 11, .bin .rem (.t 10) (.c (.int .u8 16)), none⟩,
      ⟨some 12, .conv .i64 (.t 11), none⟩,
      ⟨some 13, .bin .add (.c (.int .i64 1)) (.t 12), none⟩,
      ⟨some 14, .call 103 [.c (.str [115, 114, 118]), .t 13], none⟩,
      ⟨some 9, .mov (.t 14), none⟩,
      ⟨some 15, .ext (.t 9) 0, none⟩,
      ⟨some 16, .ext (.t 9) 1, none⟩,
      ⟨some 5, .alloc [.str [], .int .i64 0, .sl true 6 [], .int .i64 0, .sl true 2 [], .int .i64 0, .int .i64 0], none⟩,
      ⟨none, .stf 5 0 7 (.t 15), none⟩,
      ⟨some 6, .mov (.t 16), none⟩]) (.seq (.reg false [
      ⟨some 17, .ldf 5 0 7 true, none⟩,
      ⟨some 18, .mkst [.str [], .int .i64 0, .sl true 6 [], .int .i64 0, .sl true 2 [], .int .i64 0, .int .i64 0, .int .i64 0, .sl true 4 [], .sl true 4 []] [(0, 7, .t 17)], none⟩,
      ⟨some 7, .alloc [.str [], .int .i64 0, .sl true 6 [], .int .i64 0, .sl true 2 [], .int .i64 0, .int .i64 0, .int .i64 0, .sl true 4 [], .sl true 4 []], none⟩,
      ⟨none, .stf 7 0 10 (.t 18), none⟩]) (.seq (.seq (.reg false [
      ⟨some 8, .mov (.c (.int .i64 0)), none⟩]) (.block 0 (.loop (sealringref54_Played_l0)))) (sealringref54_Played_r0))))

def sealringref54_Played : AFun := { nparams := 2, ntmps := 32, res := [.cell 4 10 true], keep := false, body := sealringref54_Played_b }
theorem sealringref54_Played_body : sealringref54_Played.body = sealringref54_Played_b := rfl
theorem sealringref54_Played_res : sealringref54_Played.res = [.cell 4 10 true] := rfl
theorem sealringref54_Played_keep : sealringref54_Played.keep = false := rfl

/-- sealring/sealringref54.Next : 138 -/
def sealringref54_Next_b : AC :=
  .seq (.reg false [
      ⟨some 2, .box (.t 0), none⟩,
      ⟨some 3, .box (.t 1), none⟩,
      ⟨some 4, .alloc [.str [], .int .i64 0, .sl true 6 [], .int .i64 0, .sl true 2 [], .int .i64 0, .int .i64 0, .int .i64 0, .sl true 4 [], .sl true 4 []], none⟩]) (.seq (.reg false [
      ⟨some 15, .fad 2 7, none⟩,
      ⟨some 16, .ldf 2 7 1 false, none⟩,
      ⟨some 17, .fad 3 2, none⟩,
      ⟨some 18, .ldf 3 2 1 false, none⟩,
      ⟨some 19, .bin .rem (.t 18) (.c (.int .u8 8)), none⟩,
      ⟨some 20, .conv .i64 (.t 19), none⟩,
      ⟨some 21, .bin .add (.t 16) (.t 20), none⟩,
      ⟨some 5, .mov (.t 21), none⟩]) (.seq (.reg false [
      ⟨some 22, .mov (.t 5), none⟩,
      ⟨some 23, .fad 2 7, none⟩,
      ⟨none, .stf 2 7 1 (.t 22), none⟩]) (.seq (.seq (.reg false [
      ⟨some 24, .fad 3 0, none⟩,
      ⟨some 25, .ldf 3 0 1 false, none⟩,
      ⟨some 26, .bin .rem (.t 25) (.c (.int .u8 4)), none⟩]) (.block 0 (.seq (.reg false [
      ⟨some 33, .bin .eql (.t 26) (.c (.int .u8 0)), none⟩,
      ⟨some 32, .mov (.t 33), none⟩]) (.cond (.t 32) (.seq (.reg true [
      ⟨some 35, .fad 2 0, none⟩,
      ⟨some 36, .ldf 2 0 7 true, none⟩,
      ⟨some 37, .fad 3 1, none⟩,
      ⟨some 38, .ldf 3 1 1 false, none⟩,
      ⟨some 39, .bin .rem (.t 38) (.c (.int .u8 3)), none⟩,
      ⟨some 40, .fad 3 1, none⟩,
      ⟨some 41, .ldf 3 1 1 false, none⟩,
      ⟨some 42, .bin .rem (.t 41) (.c (.int .u8 3)), none⟩,
      ⟨some 43, .bin .add (.t 42) (.c (.int .u8 1)), none⟩,
      ⟨some 44, .slcs (.c (.str [97, 98, 99])) (some (.t 39)) (some (.t 43)), none⟩,
      ⟨some 45, .mov (.t 5), none⟩,
      ⟨some 46, .call 115 [.t 36, .t 44, .t 45], none⟩,
      ⟨some 34, .mov (.t 46), none⟩,
      ⟨some 47, .ext (.t 34) 0, none⟩,
      ⟨some 48, .ext (.t 34) 1, none⟩,
      ⟨some 49, .ext (.t 34) 2, none⟩,
      ⟨some 50, .ext (.t 34) 3, none⟩,
      ⟨some 6, .alloc [.str [], .int .i64 0, .sl true 6 [], .int .i64 0, .sl true 2 [], .int .i64 0, .int .i64 0], none⟩,
      ⟨some 7, .alloc [.int .i64 0, .str [], .int .i64 0, .sl true 4 []], none⟩,
      ⟨some 8, .alloc [.int .i64 0, .str [], .int .i64 0, .sl true 4 []], none⟩,
      ⟨none, .stf 6 0 7 (.t 47), none⟩,
      ⟨none, .stf 7 0 4 (.t 48), none⟩,
      ⟨none, .stf 8 0 4 (.t 49), none⟩,
      ⟨some 9, .mov (.t 50), none⟩]) (.seq (.reg false [
      ⟨some 51, .mov (.t 9), none⟩,
      ⟨some 52, .bin .eql (.t 51) (.c (.int .i64 0)), none⟩]) (.cond (.t 52) (.seq (.reg false [
      ⟨some 53, .ldf 6 0 7 true, none⟩,
      ⟨some 54, .fad 2 0, none⟩,
      ⟨none, .stf 2 0 7 (.t 53), none⟩]) (.seq (.reg true [
      ⟨some 55, .mksl 4 [], none⟩,
      ⟨some 56, .fad 2 8, none⟩,
      ⟨some 57, .ldf 2 8 1 false, none⟩,
      ⟨some 58, .app 56 4 (.t 55) (.t 57), none⟩,
      ⟨some 59, .ldf 7 0 4 true, none⟩,
      ⟨some 60, .mksl 4 [.t 59], none⟩,
      ⟨some 61, .app 56 4 (.t 58) (.t 60), none⟩,
      ⟨some 62, .fad 2 8, none⟩,
      ⟨none, .stfm 2 8 61, none⟩]) (.reg true [
      ⟨some 63, .mksl 4 [], none⟩,
      ⟨some 64, .fad 2 9, none⟩,
      ⟨some 65, .ldf 2 9 1 false, none⟩,
      ⟨some 66, .app 56 4 (.t 63) (.t 65), none⟩,
      ⟨some 67, .ldf 8 0 4 true, none⟩,
      ⟨some 68, .mksl 4 [.t 67], none⟩,
      ⟨some 69, .app 56 4 (.t 66) (.t 68), none⟩,
      ⟨some 70, .fad 2 9, none⟩,
      ⟨none, .stfm 2 9 69, none⟩]))) (.skip)))) (.seq (.reg false [
      ⟨some 72, .bin .eql (.t 26) (.c (.int .u8 1)), none⟩,
      ⟨some 71, .mov (.t 72), none⟩]) (.cond (.t 71) (.seq (.reg false [
      ⟨some 73, .fad 2 8, none⟩,
      ⟨some 74, .ldf 2 8 1 false, none⟩,
      ⟨some 75, .lenl (.t 74), none⟩,
      ⟨some 76, .bin .gtr (.t 75) (.c (.int .i64 0)), none⟩]) (.cond (.t 76) (.seq (.reg true [
      ⟨some 78, .fad 2 0, none⟩,
      ⟨some 79, .ldf 2 0 7 true, none⟩,
      ⟨some 80, .fad 2 8, none⟩,
      ⟨some 81, .ldf 2 8 1 false, none⟩,
      ⟨some 82, .fad 3 1, none⟩,
      ⟨some 83, .ldf 3 1 1 false, none⟩,
      ⟨some 84, .conv .i64 (.t 83), none⟩,
      ⟨some 85, .fad 2 8, none⟩,
      ⟨some 86, .ldf 2 8 1 false, none⟩,
      ⟨some 87, .lenl (.t 86), none⟩,
      ⟨some 88, .bin .rem (.t 84) (.t 87), none⟩,
      ⟨some 89, .idxa 4 (.t 81) (.t 88), none⟩,
      ⟨some 90, .ld 89 4 true, none⟩,
      ⟨some 91, .mov (.t 5), none⟩,
      ⟨some 92, .call 124 [.t 79, .t 90, .t 91], none⟩,
      ⟨some 77, .mov (.t 92), none⟩,
      ⟨some 93, .ext (.t 77) 0, none⟩,
      ⟨some 94, .ext (.t 77) 1, none⟩,
      ⟨some 95, .ext (.t 77) 2, none⟩,
      ⟨some 10, .alloc [.str [], .int .i64 0, .sl true 6 [], .int .i64 0, .sl true 2 [], .int .i64 0, .int .i64 0], none⟩,
      ⟨some 11, .alloc [.int .i64 0, .str [], .int .i64 0, .sl true 4 []], none⟩,
      ⟨none, .stf 10 0 7 (.t 93), none⟩,
      ⟨none, .stf 11 0 4 (.t 94), none⟩,
      ⟨some 12, .mov (.t 95), none⟩]) (.seq (.reg false [
      ⟨some 96, .mov (.t 12), none⟩,
      ⟨some 97, .bin .eql (.t 96) (.c (.int .i64 0)), none⟩]) (.cond (.t 97) (.reg false [
      ⟨some 98, .ldf 10 0 7 true, none⟩,
      ⟨some 99, .fad 2 0, none⟩,
      ⟨none, .stf 2 0 7 (.t 98), none⟩]) (.skip)))) (.skip))) (.seq (.reg false [
      ⟨some 101, .bin .eql (.t 26) (.c (.int .u8 2)), none⟩,
      ⟨some 100, .mov (.t 101), none⟩]) (.cond (.t 100) (.seq (.reg false [
      ⟨some 103, .fad 2 0, none⟩,
      ⟨some 104, .ldf 2 0 7 true, none⟩,
      ⟨some 105, .mov (.t 5), none⟩,
      ⟨some 106, .call 121 [.t 104, .t 105], none⟩,
      ⟨some 102, .mov (.t 106), none⟩,
      ⟨some 107, .ext (.t 102) 0, none⟩,
      ⟨some 108, .ext (.t 102) 1, none⟩,
      ⟨some 13, .alloc [.str [], .int .i64 0, .sl true 6 [], .int .i64 0, .sl true 2 [], .int .i64 0, .int .i64 0], none⟩,
      ⟨none, .stf 13 0 7 (.t 107), none⟩,
      ⟨some 14, .mov (.t 108), none⟩]) (.seq (.reg false [
      ⟨some 109, .mov (.t 14), none⟩,
      ⟨some 110, .bin .eql (.t 109) (.c (.int .i64 0)), none⟩]) (.cond (.t 110) (.reg false [
      ⟨some 111, .ldf 13 0 7 true, none⟩,
      ⟨some 112, .fad 2 0, none⟩,
      ⟨none, .stf 2 0 7 (.t 111), none⟩]) (.skip)))) (.reg false [
      ⟨some 27, .fad 2 0, none⟩,
      ⟨some 28, .ldf 2 0 7 true, none⟩,
      ⟨some 29, .mov (.t 5), none⟩,
      ⟨some 30, .call 122 [.t 28, .t 29], none⟩,
      ⟨some 31, .fad 2 0, none⟩,
      ⟨none, .stf 2 0 7 (.t 30), none⟩]))))))))) (.seq (.reg false [
      ⟨some 113, .ldf 2 0 10 true, none⟩,
      ⟨none, .stf 4 0 10 (.t 113), none⟩]) (.ret)))))

def sealringref54_Next : AFun := { nparams := 2, ntmps := 114, res := [.cell 4 10 true], keep := false, body := sealringref54_Next_b }
theorem sealringref54_Next_body : sealringref54_Next.body = sealringref54_Next_b := rfl
theorem sealringref54_Next_res : sealringref54_Next.res = [.cell 4 10 true] := rfl
theorem sealringref54_Next_keep : sealringref54_Next.keep = false := rfl

def sealringlaw54_TicketKept_l0 : AC :=
  .seq (.reg false [
      ⟨some 63, .bin .lss (.t 62) (.t 61), none⟩]) (.seq (.cond (.t 63) (.skip) (.exit 0)) (.seq (.block 1 (.seq (.reg false [
      ⟨some 64, .idxa 3 (.t 60) (.t 62), none⟩,
      ⟨some 65, .ld 64 3 true, none⟩,
      ⟨some 14, .alloc [.int .u8 0, .int .u8 0, .int .u8 0], none⟩,
      ⟨none, .stf 14 0 3 (.t 65), none⟩]) (.seq (.reg false [
      ⟨some 66, .fad 7 7, none⟩,
      ⟨some 67, .ldf 7 7 1 false, none⟩,
      ⟨some 68, .fad 14 2, none⟩,
      ⟨some 69, .ldf 14 2 1 false, none⟩,
      ⟨some 70, .bin .rem (.t 69) (.c (.int .u8 8)), none⟩,
      ⟨some 71, .conv .i64 (.t 70), none⟩,
      ⟨some 72, .bin .add (.t 67) (.t 71), none⟩,
      ⟨some 15, .mov (.t 72), none⟩]) (.seq (.seq (.reg false [
      ⟨some 73, .mov (.t 15), none⟩,
      ⟨some 74, .mov (.t 12), none⟩,
      ⟨some 75, .bin .gtr (.t 73) (.t 74), none⟩]) (.cond (.t 75) (.exit 0) (.skip))) (.seq (.reg false [
      ⟨some 76, .mov (.t 15), none⟩,
      ⟨some 77, .fad 7 7, none⟩,
      ⟨none, .stf 7 7 1 (.t 76), none⟩]) (.seq (.reg false [
      ⟨some 78, .fad 14 0, none⟩,
      ⟨some 79, .ldf 14 0 1 false, none⟩,
      ⟨some 80, .bin .rem (.t 79) (.c (.int .u8 2)), none⟩,
      ⟨some 81, .bin .eql (.t 80) (.c (.int .u8 0)), none⟩]) (.cond (.t 81) (.seq (.reg false [
      ⟨some 83, .ldf 8 0 7 true, none⟩,
      ⟨some 84, .call 114 [.t 83], none⟩,
      ⟨some 85, .mov (.t 15), none⟩,
      ⟨some 86, .call 64 [.t 84, .t 85], none⟩,
      ⟨some 82, .mov (.t 86), none⟩,
      ⟨some 87, .ext (.t 82) 0, none⟩,
      ⟨some 88, .ext (.t 82) 1, none⟩,
      ⟨some 16, .alloc [.str [], .int .i64 0, .sl true 6 [], .int .i64 0, .sl true 2 [], .int .i64 0, .int .i64 0], none⟩,
      ⟨none, .stf 16 0 7 (.t 87), none⟩,
      ⟨some 17, .mov (.t 88), none⟩]) (.seq (.reg false [
      ⟨some 89, .mov (.t 17), none⟩,
      ⟨some 90, .bin .eql (.t 89) (.c (.int .i64 0)), none⟩]) (.cond (.t 90) (.reg false [
      ⟨some 91, .ldf 16 0 7 true, none⟩,
      ⟨none, .stf 8 0 7 (.t 91), none⟩]) (.skip)))) (.reg false [
      ⟨some 92, .ldf 8 0 7 true, none⟩,
      ⟨some 93, .call 114 [.t 92], none⟩,
      ⟨some 94, .mov (.t 15), none⟩,
      ⟨some 95, .call 92 [.t 93, .t 94], none⟩,
      ⟨none, .stf 8 0 7 (.t 95), none⟩])))))))) (.reg false [
      ⟨some 96, .bin .add (.t 62) (.c (.int .i64 1)), none⟩,
      ⟨some 62, .mov (.t 96), none⟩])))

def sealringlaw54_TicketKept_r0 : AC :=
  .seq (.reg true [
      ⟨some 98, .ldf 8 0 7 true, none⟩,
      ⟨some 99, .call 114 [.t 98], none⟩,
      ⟨some 100, .ldf 9 0 4 true, none⟩,
      ⟨some 101, .fad 7 7, none⟩,
      ⟨some 102, .ldf 7 7 1 false, none⟩,
      ⟨some 103, .call 67 [.t 99, .t 100, .t 102], none⟩,
      ⟨some 97, .mov (.t 103), none⟩,
      ⟨some 104, .ext (.t 97) 0, none⟩,
      ⟨some 105, .ext (.t 97) 1, none⟩,
      ⟨some 106, .ext (.t 97) 2, none⟩,
      ⟨some 18, .alloc [.str [], .int .i64 0, .sl true 6 [], .int .i64 0, .sl true 2 [], .int .i64 0, .int .i64 0], none⟩,
      ⟨some 19, .alloc [.int .i64 0, .str [], .int .i64 0, .sl true 4 []], none⟩,
      ⟨none, .stf 18 0 7 (.t 104), none⟩,
      ⟨none, .stf 19 0 4 (.t 105), none⟩,
      ⟨some 20, .mov (.t 106), none⟩]) (.seq (.reg true [
      ⟨some 108, .ldf 8 0 7 true, none⟩,
      ⟨some 109, .call 114 [.t 108], none⟩,
      ⟨some 110, .ldf 9 0 4 true, none⟩,
      ⟨some 111, .mov (.t 12), none⟩,
      ⟨some 112, .call 67 [.t 109, .t 110, .t 111], none⟩,
      ⟨some 107, .mov (.t 112), none⟩,
      ⟨some 113, .ext (.t 107) 0, none⟩,
      ⟨some 114, .ext (.t 107) 1, none⟩,
      ⟨some 115, .ext (.t 107) 2, none⟩,
      ⟨some 21, .alloc [.str [], .int .i64 0, .sl true 6 [], .int .i64 0, .sl true 2 [], .int .i64 0, .int .i64 0], none⟩,
      ⟨some 22, .alloc [.int .i64 0, .str [], .int .i64 0, .sl true 4 []], none⟩,
      ⟨none, .stf 21 0 7 (.t 113), none⟩,
      ⟨none, .stf 22 0 4 (.t 114), none⟩,
      ⟨some 23, .mov (.t 115), none⟩]) (.seq (.reg false [
      ⟨some 116, .mov (.t 20), none⟩,
      ⟨some 117, .bin .eql (.t 116) (.c (.int .i64 0)), none⟩,
      ⟨some 118, .mov (.t 117), none⟩,
      ⟨some 119, .mov (.t 23), some (118, true)⟩,
      ⟨some 120, .bin .eql (.t 119) (.c (.int .i64 0)), some (118, true)⟩,
      ⟨some 121, .pick (.t 118) (.t 120) (.c (.bool false)), none⟩,
      ⟨some 122, .mov (.t 121), none⟩,
      ⟨some 123, .ldf 19 0 4 true, some (122, true)⟩,
      ⟨some 124, .ldf 10 0 4 true, some (122, true)⟩,
      ⟨some 125, .call 89 [.t 123, .t 124], some (122, true)⟩,
      ⟨some 126, .pick (.t 122) (.t 125) (.c (.bool false)), none⟩,
      ⟨some 127, .mov (.t 126), none⟩,
      ⟨some 128, .ldf 22 0 4 true, some (127, true)⟩,
      ⟨some 129, .ldf 10 0 4 true, some (127, true)⟩,
      ⟨some 130, .call 89 [.t 128, .t 129], some (127, true)⟩,
      ⟨some 131, .pick (.t 127) (.t 130) (.c (.bool false)), none⟩,
      ⟨some 6, .mov (.t 131), none⟩]) (.ret)))

/-- sealring/sealringlaw54.TicketKept : 139 -/
def sealringlaw54_TicketKept_b : AC :=
  .seq (.reg false [
      ⟨some 6, .mov (.c (.bool false)), none⟩]) (.seq (.seq (.reg false [
      ⟨some 24, .call 1 [], none⟩,
      ⟨some 25, .un .not (.t 24), none⟩,
      ⟨some 26, .mov (.t 25), none⟩,
      ⟨some 27, .mov (.t 1), some (26, false)⟩,
      ⟨some 28, .lenl (.t 27), some (26, false)⟩,
      ⟨some 29, .bin .gtr (.t 28) (.c (.int .i64 40)), some (26, false)⟩,
      ⟨some 30, .pick (.t 26) (.c (.bool true)) (.t 29), none⟩,
      ⟨some 31, .mov (.t 30), none⟩,
      ⟨some 32, .mov (.t 2), some (31, false)⟩,
      ⟨some 33, .lenl (.t 32), some (31, false)⟩,
      ⟨some 34, .bin .gtr (.t 33) (.c (.int .i64 20)), some (31, false)⟩,
      ⟨some 35, .pick (.t 31) (.c (.bool true)) (.t 34), none⟩]) (.cond (.t 35) (.seq (.reg false [
      ⟨some 36, .call 1 [], none⟩,
      ⟨some 6, .mov (.t 36), none⟩]) (.ret)) (.skip))) (.seq (.reg false [
      ⟨some 37, .mov (.t 0), none⟩,
      ⟨some 38, .mov (.t 1), none⟩,
      ⟨some 39, .call 137 [.t 37, .t 38], none⟩,
      ⟨some 7, .alloc [.str [], .int .i64 0, .sl true 6 [], .int .i64 0, .sl true 2 [], .int .i64 0, .int .i64 0, .int .i64 0, .sl true 4 [], .sl true 4 []], none⟩,
      ⟨none, .stf 7 0 10 (.t 39), none⟩]) (.seq (.reg true [
      ⟨some 41, .fad 7 0, none⟩,
      ⟨some 42, .ldf 7 0 7 true, none⟩,
      ⟨some 43, .call 114 [.t 42], none⟩,
      ⟨some 44, .fad 7 7, none⟩,
      ⟨some 45, .ldf 7 7 1 false, none⟩,
      ⟨some 46, .call 25 [.t 43, .c (.str [97]), .t 45], none⟩,
      ⟨some 40, .mov (.t 46), none⟩,
      ⟨some 47, .ext (.t 40) 0, none⟩,
      ⟨some 48, .ext (.t 40) 1, none⟩,
      ⟨some 49, .ext (.t 40) 2, none⟩,
      ⟨some 50, .ext (.t 40) 3, none⟩,
      ⟨some 8, .alloc [.str [], .int .i64 0, .sl true 6 [], .int .i64 0, .sl true 2 [], .int .i64 0, .int .i64 0], none⟩,
      ⟨some 9, .alloc [.int .i64 0, .str [], .int .i64 0, .sl true 4 []], none⟩,
      ⟨some 10, .alloc [.int .i64 0, .str [], .int .i64 0, .sl true 4 []], none⟩,
      ⟨none, .stf 8 0 7 (.t 47), none⟩,
      ⟨none, .stf 9 0 4 (.t 48), none⟩,
      ⟨none, .stf 10 0 4 (.t 49), none⟩,
      ⟨some 11, .mov (.t 50), none⟩]) (.seq (.seq (.reg false [
      ⟨some 51, .mov (.t 11), none⟩,
      ⟨some 52, .bin .neq (.t 51) (.c (.int .i64 0)), none⟩]) (.cond (.t 52) (.seq (.reg false [
      ⟨some 6, .mov (.c (.bool false)), none⟩]) (.ret)) (.skip))) (.seq (.reg false [
      ⟨some 53, .fad 7 7, none⟩,
      ⟨some 54, .ldf 7 7 1 false, none⟩,
      ⟨some 55, .bin .add (.t 54) (.c (.int .i64 1)), none⟩,
      ⟨some 56, .mov (.t 0), none⟩,
      ⟨some 57, .bin .rem (.t 56) (.c (.int .u8 16)), none⟩,
      ⟨some 58, .conv .i64 (.t 57), none⟩,
      ⟨some 59, .bin .add (.t 55) (.t 58), none⟩,
      ⟨some 12, .mov (.t 59), none⟩]) (.seq (.seq (.reg false [
      ⟨some 60, .mov (.t 2), none⟩,
      ⟨some 61, .lenl (.t 60), none⟩,
      ⟨some 62, .mov (.c (.int .i64 0)), none⟩]) (.block 0 (.loop (sealringlaw54_TicketKept_l0)))) (sealringlaw54_TicketKept_r0)))))))

def sealringlaw54_TicketKept : AFun := { nparams := 3, ntmps := 132, res := [.tmp 6], keep := false, body := sealringlaw54_TicketKept_b }
theorem sealringlaw54_TicketKept_body : sealringlaw54_TicketKept.body = sealringlaw54_TicketKept_b := rfl
theorem sealringlaw54_TicketKept_res : sealringlaw54_TicketKept.res = [.tmp 6] := rfl
theorem sealringlaw54_TicketKept_keep : sealringlaw54_TicketKept.keep = false := rfl

def sealringlaw54_TicketOnce_l0 : AC :=
  .seq (.reg false [
      ⟨some 32, .bin .lss (.t 31) (.t 30), none⟩]) (.seq (.cond (.t 32) (.skip) (.exit 0)) (.seq (.block 1 (.seq (.reg false [
      ⟨some 33, .idxa 3 (.t 29) (.t 31), none⟩,
      ⟨some 34, .ld 33 3 true, none⟩,
      ⟨some 9, .alloc [.int .u8 0, .int .u8 0, .int .u8 0], none⟩,
      ⟨none, .stf 9 0 3 (.t 34), none⟩]) (.seq (.reg false [
      ⟨some 35, .fad 5 7, none⟩,
      ⟨some 36, .ldf 5 7 1 false, none⟩,
      ⟨some 37, .fad 9 2, none⟩,
      ⟨some 38, .ldf 9 2 1 false, none⟩,
      ⟨some 39, .bin .rem (.t 38) (.c (.int .u8 8)), none⟩,
      ⟨some 40, .conv .i64 (.t 39), none⟩,
      ⟨some 41, .bin .add (.t 36) (.t 40), none⟩,
      ⟨some 10, .mov (.t 41), none⟩]) (.seq (.seq (.reg false [
      ⟨some 42, .fad 5 8, none⟩,
      ⟨some 43, .ldf 5 8 1 false, none⟩,
      ⟨some 44, .lenl (.t 43), none⟩,
      ⟨some 11, .mov (.t 44), none⟩]) (.seq (.reg false [
      ⟨some 45, .fad 9 0, none⟩,
      ⟨some 46, .ldf 9 0 1 false, none⟩,
      ⟨some 47, .bin .rem (.t 46) (.c (.int .u8 4)), none⟩,
      ⟨some 48, .bin .eql (.t 47) (.c (.int .u8 1)), none⟩,
      ⟨some 49, .mov (.t 48), none⟩,
      ⟨some 50, .mov (.t 11), some (49, true)⟩,
      ⟨some 51, .bin .gtr (.t 50) (.c (.int .i64 0)), some (49, true)⟩,
      ⟨some 52, .pick (.t 49) (.t 51) (.c (.bool false)), none⟩]) (.cond (.t 52) (.seq (.reg false [
      ⟨some 53, .fad 9 1, none⟩,
      ⟨some 54, .ldf 9 1 1 false, none⟩,
      ⟨some 55, .conv .i64 (.t 54), none⟩,
      ⟨some 56, .mov (.t 11), none⟩,
      ⟨some 57, .bin .rem (.t 55) (.t 56), none⟩,
      ⟨some 12, .mov (.t 57), none⟩]) (.seq (.reg true [
      ⟨some 59, .fad 5 0, none⟩,
      ⟨some 60, .ldf 5 0 7 true, none⟩,
      ⟨some 61, .call 114 [.t 60], none⟩,
      ⟨some 62, .fad 5 8, none⟩,
      ⟨some 63, .ldf 5 8 1 false, none⟩,
      ⟨some 64, .mov (.t 12), none⟩,
      ⟨some 65, .idxa 4 (.t 63) (.t 64), none⟩,
      ⟨some 66, .ld 65 4 true, none⟩,
      ⟨some 67, .mov (.t 10), none⟩,
      ⟨some 68, .call 67 [.t 61, .t 66, .t 67], none⟩,
      ⟨some 58, .mov (.t 68), none⟩,
      ⟨some 69, .ext (.t 58) 0, none⟩,
      ⟨some 70, .ext (.t 58) 1, none⟩,
      ⟨some 71, .ext (.t 58) 2, none⟩,
      ⟨some 13, .alloc [.str [], .int .i64 0, .sl true 6 [], .int .i64 0, .sl true 2 [], .int .i64 0, .int .i64 0], none⟩,
      ⟨some 14, .alloc [.int .i64 0, .str [], .int .i64 0, .sl true 4 []], none⟩,
      ⟨none, .stf 13 0 7 (.t 69), none⟩,
      ⟨none, .stf 14 0 4 (.t 70), none⟩,
      ⟨some 15, .mov (.t 71), none⟩]) (.seq (.seq (.reg false [
      ⟨some 72, .mov (.t 15), none⟩,
      ⟨some 73, .bin .eql (.t 72) (.c (.int .i64 0)), none⟩,
      ⟨some 74, .mov (.t 73), none⟩,
      ⟨some 75, .mov (.t 6), some (74, true)⟩,
      ⟨some 76, .mov (.t 12), some (74, true)⟩,
      ⟨some 77, .lkm false false (.t 75) (.t 76) (.bool false), some (74, true)⟩,
      ⟨some 78, .mov (.t 77), some (74, true)⟩,
      ⟨some 79, .mov (.t 10), some (78, false)⟩,
      ⟨some 80, .mov (.t 7), some (78, false)⟩,
      ⟨some 81, .mov (.t 12), some (78, false)⟩,
      ⟨some 82, .lkm false false (.t 80) (.t 81) (.int .i64 0), some (78, false)⟩,
      ⟨some 83, .bin .gtr (.t 79) (.t 82), some (78, false)⟩,
      ⟨some 84, .pick (.t 78) (.c (.bool true)) (.t 83), some (74, true)⟩,
      ⟨some 85, .pick (.t 74) (.t 84) (.c (.bool false)), none⟩]) (.cond (.t 85) (.seq (.reg false [
      ⟨some 4, .mov (.c (.bool false)), none⟩]) (.ret)) (.skip))) (.reg false [
      ⟨some 86, .mov (.t 6), none⟩,
      ⟨some 87, .mov (.t 12), none⟩,
      ⟨some 88, .mov (.t 6), none⟩,
      ⟨some 89, .mov (.t 12), none⟩,
      ⟨some 90, .lkm false false (.t 88) (.t 89) (.bool false), none⟩,
      ⟨some 91, .mov (.t 90), none⟩,
      ⟨some 92, .mov (.t 15), some (91, false)⟩,
      ⟨some 93, .bin .eql (.t 92) (.c (.int .i64 0)), some (91, false)⟩,
      ⟨some 94, .pick (.t 91) (.c (.bool true)) (.t 93), none⟩,
      ⟨none, .upm false (.t 86) (.t 87) (.t 94), none⟩])))) (.skip)))) (.seq (.reg false [
      ⟨some 95, .ldf 5 0 10 true, none⟩,
      ⟨some 96, .ldf 9 0 3 true, none⟩,
      ⟨some 97, .call 138 [.t 95, .t 96], none⟩,
      ⟨none, .stf 5 0 10 (.t 97), none⟩]) (.seq (.reg false [
      ⟨some 98, .fad 5 8, none⟩,
      ⟨some 99, .ldf 5 8 1 false, none⟩,
      ⟨some 100, .lenl (.t 99), none⟩,
      ⟨some 101, .bin .sub (.t 100) (.c (.int .i64 1)), none⟩,
      ⟨some 16, .mov (.t 101), none⟩]) (.seq (.reg false [
      ⟨some 102, .mov (.t 16), none⟩,
      ⟨some 103, .bin .geq (.t 102) (.c (.int .i64 0)), none⟩,
      ⟨some 104, .mov (.t 103), none⟩,
      ⟨some 105, .mov (.t 7), some (104, true)⟩,
      ⟨some 106, .mov (.t 16), some (104, true)⟩,
      ⟨some 107, .lkm false false (.t 105) (.t 106) (.int .i64 0), some (104, true)⟩,
      ⟨some 108, .bin .eql (.t 107) (.c (.int .i64 0)), some (104, true)⟩,
      ⟨some 109, .pick (.t 104) (.t 108) (.c (.bool false)), none⟩]) (.cond (.t 109) (.reg false [
      ⟨some 110, .mov (.t 7), none⟩,
      ⟨some 111, .mov (.t 16), none⟩,
      ⟨some 112, .mov (.t 10), none⟩,
      ⟨some 113, .bin .add (.t 112) (.c (.int .i64 1)), none⟩,
      ⟨some 114, .mov (.t 0), none⟩,
      ⟨some 115, .bin .rem (.t 114) (.c (.int .u8 16)), none⟩,
      ⟨some 116, .conv .i64 (.t 115), none⟩,
      ⟨some 117, .bin .add (.t 113) (.t 116), none⟩,
      ⟨none, .upm false (.t 110) (.t 111) (.t 117), none⟩]) (.skip))))))))) (.reg false [
      ⟨some 118, .bin .add (.t 31) (.c (.int .i64 1)), none⟩,
      ⟨some 31, .mov (.t 118), none⟩])))

def sealringlaw54_TicketOnce_r0 : AC :=
  .seq (.reg false [
      ⟨some 4, .mov (.c (.bool true)), none⟩]) (.ret)

/-- sealring/sealringlaw54.TicketOnce : 140 -/
def sealringlaw54_TicketOnce_b : AC :=
  .seq (.reg false [
      ⟨some 4, .mov (.c (.bool false)), none⟩]) (.seq (.seq (.reg false [
      ⟨some 17, .call 1 [], none⟩,
      ⟨some 18, .un .not (.t 17), none⟩,
      ⟨some 19, .mov (.t 18), none⟩,
      ⟨some 20, .mov (.t 1), some (19, false)⟩,
      ⟨some 21, .lenl (.t 20), some (19, false)⟩,
      ⟨some 22, .bin .gtr (.t 21) (.c (.int .i64 40)), some (19, false)⟩,
      ⟨some 23, .pick (.t 19) (.c (.bool true)) (.t 22), none⟩]) (.cond (.t 23) (.seq (.reg false [
      ⟨some 24, .call 1 [], none⟩,
      ⟨some 4, .mov (.t 24), none⟩]) (.ret)) (.skip))) (.seq (.reg false [
      ⟨some 25, .mov (.t 0), none⟩,
      ⟨some 26, .call 137 [.t 25, .c (.sl true 3 [])], none⟩,
      ⟨some 5, .alloc [.str [], .int .i64 0, .sl true 6 [], .int .i64 0, .sl true 2 [], .int .i64 0, .int .i64 0, .int .i64 0, .sl true 4 [], .sl true 4 []], none⟩,
      ⟨none, .stf 5 0 10 (.t 26), none⟩]) (.seq (.reg false [
      ⟨some 27, .mkm, none⟩,
      ⟨some 6, .mov (.t 27), none⟩]) (.seq (.reg false [
      ⟨some 28, .mkm, none⟩,
      ⟨some 7, .mov (.t 28), none⟩]) (.seq (.seq (.reg false [
      ⟨some 29, .mov (.t 1), none⟩,
      ⟨some 30, .lenl (.t 29), none⟩,
      ⟨some 31, .mov (.c (.int .i64 0)), none⟩]) (.block 0 (.loop (sealringlaw54_TicketOnce_l0)))) (sealringlaw54_TicketOnce_r0))))))

def sealringlaw54_TicketOnce : AFun := { nparams := 2, ntmps := 119, res := [.tmp 4], keep := false, body := sealringlaw54_TicketOnce_b }
theorem sealringlaw54_TicketOnce_body : sealringlaw54_TicketOnce.body = sealringlaw54_TicketOnce_b := rfl
theorem sealringlaw54_TicketOnce_res : sealringlaw54_TicketOnce.res = [.tmp 4] := rfl
theorem sealringlaw54_TicketOnce_keep : sealringlaw54_TicketOnce.keep = false := rfl

def slices_DeleteFunc_api_Epoch_api_Epoch_a0_l0 : AC :=
  .seq (.seq (.reg false [
      ⟨some 16, .mov (.t 6), none⟩,
      ⟨some 17, .mov (.t 0), none⟩,
      ⟨some 18, .lenl (.t 17), none⟩,
      ⟨some 19, .bin .lss (.t 16) (.t 18), none⟩]) (.cond (.t 19) (.skip) (.exit 0))) (.seq (.block 1 (.seq (.reg false [
      ⟨some 22, .mov (.t 0), none⟩,
      ⟨some 23, .mov (.t 6), none⟩,
      ⟨some 24, .idxa 6 (.t 22) (.t 23), none⟩,
      ⟨some 25, .ldg 24 6 true, none⟩,
      ⟨some 7, .alloc [.int .i64 0, .int .i64 0, .int .i64 0, .str [], .int .i64 0, .sl true 4 []], none⟩,
      ⟨none, .stf 7 0 6 (.t 25), none⟩]) (.seq (.reg false [
      ⟨some 26, .mov (.t 1), none⟩,
      ⟨some 27, .ldf 7 0 6 true, none⟩,
      ⟨some 28, .callv (.t 26) [.t 27], none⟩,
      ⟨some 29, .un .not (.t 28), none⟩]) (.cond (.t 29) (.seq (.reg false [
      ⟨some 30, .mov (.t 0), none⟩,
      ⟨some 31, .mov (.t 5), none⟩,
      ⟨some 32, .ldf 7 0 6 true, none⟩,
      ⟨some 33, .idxa 6 (.t 30) (.t 31), none⟩,
      ⟨none, .st 33 6 (.t 32), none⟩]) (.reg false [
      ⟨some 34, .mov (.t 5), none⟩,
      ⟨some 35, .bin .add (.t 34) (.c (.int .i64 1)), none⟩,
      ⟨some 5, .mov (.t 35), none⟩])) (.skip))))) (.reg false [
      ⟨some 20, .mov (.t 6), none⟩,
      ⟨some 21, .bin .add (.t 20) (.c (.int .i64 1)), none⟩,
      ⟨some 6, .mov (.t 21), none⟩]))

def slices_DeleteFunc_api_Epoch_api_Epoch_a0_r0 : AC :=
  .seq (.reg false [
      ⟨some 36, .mov (.t 0), none⟩,
      ⟨some 37, .mov (.t 5), none⟩,
      ⟨some 38, .slcl 6 (.t 36) (some (.t 37)) none, none⟩,
      ⟨none, .clr 6 (.t 38), none⟩]) (.seq (.reg false [
      ⟨some 39, .mov (.t 0), none⟩,
      ⟨some 40, .mov (.t 5), none⟩,
      ⟨some 41, .slcl 6 (.t 39) none (some (.t 40)), none⟩,
      ⟨some 4, .frz 41 6, none⟩]) (.ret))

/-- slices.DeleteFunc[[]sealring/api.Epoch,sealring/api.Epoch]@a0 : 142 -/
def slices_DeleteFunc_api_Epoch_api_Epoch_a0_b : AC :=
  .seq (.reg false [
      ⟨some 4, .mov (.c (.sl true 6 [])), none⟩]) (.seq (.reg false [
      ⟨some 8, .mov (.t 0), none⟩,
      ⟨some 9, .mov (.t 1), none⟩,
      ⟨some 10, .call 143 [.t 8, .t 9], none⟩,
      ⟨some 5, .mov (.t 10), none⟩]) (.seq (.seq (.reg false [
      ⟨some 11, .mov (.t 5), none⟩,
      ⟨some 12, .bin .eql (.t 11) (.c (.int .i64 (-1))), none⟩]) (.cond (.t 12) (.seq (.reg false [
      ⟨some 13, .mov (.t 0), none⟩,
      ⟨some 4, .frz 13 6, none⟩]) (.ret)) (.skip))) (.seq (.seq (.reg false [
      ⟨some 14, .mov (.t 5), none⟩,
      ⟨some 15, .bin .add (.t 14) (.c (.int .i64 1)), none⟩,
      ⟨some 6, .mov (.t 15), none⟩]) (.block 0 (.loop (slices_DeleteFunc_api_Epoch_api_Epoch_a0_l0)))) (slices_DeleteFunc_api_Epoch_api_Epoch_a0_r0))))

def slices_DeleteFunc_api_Epoch_api_Epoch_a0 : AFun := { nparams := 2, ntmps := 42, res := [.tmp 4], keep := false, body := slices_DeleteFunc_api_Epoch_api_Epoch_a0_b }
theorem slices_DeleteFunc_api_Epoch_api_Epoch_a0_body : slices_DeleteFunc_api_Epoch_api_Epoch_a0.body = slices_DeleteFunc_api_Epoch_api_Epoch_a0_b := rfl
theorem slices_DeleteFunc_api_Epoch_api_Epoch_a0_res : slices_DeleteFunc_api_Epoch_api_Epoch_a0.res = [.tmp 4] := rfl
theorem slices_DeleteFunc_api_Epoch_api_Epoch_a0_keep : slices_DeleteFunc_api_Epoch_api_Epoch_a0.keep = false := rfl

def slices_IndexFunc_api_Epoch_api_Epoch_a0_l0 : AC :=
  .seq (.reg false [
      ⟨some 9, .bin .lss (.t 8) (.t 7), none⟩]) (.seq (.cond (.t 9) (.skip) (.exit 0)) (.seq (.block 1 (.seq (.reg false [
      ⟨some 10, .mov (.t 8), none⟩,
      ⟨some 5, .mov (.t 10), none⟩]) (.seq (.reg false [
      ⟨some 11, .mov (.t 1), none⟩,
      ⟨some 12, .mov (.t 0), none⟩,
      ⟨some 13, .mov (.t 5), none⟩,
      ⟨some 14, .idxa 6 (.t 12) (.t 13), none⟩,
      ⟨some 15, .ldg 14 6 true, none⟩,
      ⟨some 16, .callv (.t 11) [.t 15], none⟩]) (.cond (.t 16) (.seq (.reg false [
      ⟨some 17, .mov (.t 5), none⟩,
      ⟨some 4, .mov (.t 17), none⟩]) (.ret)) (.skip))))) (.reg false [
      ⟨some 18, .bin .add (.t 8) (.c (.int .i64 1)), none⟩,
      ⟨some 8, .mov (.t 18), none⟩])))

def slices_IndexFunc_api_Epoch_api_Epoch_a0_r0 : AC :=
  .seq (.reg false [
      ⟨some 4, .mov (.c (.int .i64 (-1))), none⟩]) (.ret)

/-- slices.IndexFunc[[]sealring/api.Epoch,sealring/api.Epoch]@a0 : 143 -/
def slices_IndexFunc_api_Epoch_api_Epoch_a0_b : AC :=
  .seq (.reg false [
      ⟨some 4, .mov (.c (.int .i64 0)), none⟩]) (.seq (.seq (.reg false [
      ⟨some 6, .mov (.t 0), none⟩,
      ⟨some 7, .lenl (.t 6), none⟩,
      ⟨some 8, .mov (.c (.int .i64 0)), none⟩]) (.block 0 (.loop (slices_IndexFunc_api_Epoch_api_Epoch_a0_l0)))) (slices_IndexFunc_api_Epoch_api_Epoch_a0_r0))

def slices_IndexFunc_api_Epoch_api_Epoch_a0 : AFun := { nparams := 2, ntmps := 19, res := [.tmp 4], keep := false, body := slices_IndexFunc_api_Epoch_api_Epoch_a0_b }
theorem slices_IndexFunc_api_Epoch_api_Epoch_a0_body : slices_IndexFunc_api_Epoch_api_Epoch_a0.body = slices_IndexFunc_api_Epoch_api_Epoch_a0_b := rfl
theorem slices_IndexFunc_api_Epoch_api_Epoch_a0_res : slices_IndexFunc_api_Epoch_api_Epoch_a0.res = [.tmp 4] := rfl
theorem slices_IndexFunc_api_Epoch_api_Epoch_a0_keep : slices_IndexFunc_api_Epoch_api_Epoch_a0.keep = false := rfl

def slices_DeleteFunc_api_Used_api_Used_a0_l0 : AC :=
  .seq (.seq (.reg false [
      ⟨some 16, .mov (.t 6), none⟩,
      ⟨some 17, .mov (.t 0), none⟩,
      ⟨some 18, .lenl (.t 17), none⟩,
      ⟨some 19, .bin .lss (.t 16) (.t 18), none⟩]) (.cond (.t 19) (.skip) (.exit 0))) (.seq (.block 1 (.seq (.reg false [
      ⟨some 22, .mov (.t 0), none⟩,
      ⟨some 23, .mov (.t 6), none⟩,
      ⟨some 24, .idxa 2 (.t 22) (.t 23), none⟩,
      ⟨some 25, .ldg 24 2 true, none⟩,
      ⟨some 7, .alloc [.int .i64 0, .int .i64 0], none⟩,
      ⟨none, .stf 7 0 2 (.t 25), none⟩]) (.seq (.reg false [
      ⟨some 26, .mov (.t 1), none⟩,
      ⟨some 27, .ldf 7 0 2 true, none⟩,
      ⟨some 28, .callv (.t 26) [.t 27], none⟩,
      ⟨some 29, .un .not (.t 28), none⟩]) (.cond (.t 29) (.seq (.reg false [
      ⟨some 30, .mov (.t 0), none⟩,
      ⟨some 31, .mov (.t 5), none⟩,
      ⟨some 32, .ldf 7 0 2 true, none⟩,
      ⟨some 33, .idxa 2 (.t 30) (.t 31), none⟩,
      ⟨none, .st 33 2 (.t 32), none⟩]) (.reg false [
      ⟨some 34, .mov (.t 5), none⟩,
      ⟨some 35, .bin .add (.t 34) (.c (.int .i64 1)), none⟩,
      ⟨some 5, .mov (.t 35), none⟩])) (.skip))))) (.reg false [
      ⟨some 20, .mov (.t 6), none⟩,
      ⟨some 21, .bin .add (.t 20) (.c (.int .i64 1)), none⟩,
      ⟨some 6, .mov (.t 21), none⟩]))

def slices_DeleteFunc_api_Used_api_Used_a0_r0 : AC :=
  .seq (.reg false [
      ⟨some 36, .mov (.t 0), none⟩,
      ⟨some 37, .mov (.t 5), none⟩,
      ⟨some 38, .slcl 2 (.t 36) (some (.t 37)) none, none⟩,
      ⟨none, .clr 2 (.t 38), none⟩]) (.seq (.reg false [
      ⟨some 39, .mov (.t 0), none⟩,
      ⟨some 40, .mov (.t 5), none⟩,
      ⟨some 41, .slcl 2 (.t 39) none (some (.t 40)), none⟩,
      ⟨some 4, .frz 41 2, none⟩]) (.ret))

/-- slices.DeleteFunc[[]sealring/api.Used,sealring/api.Used]@a0 : 144 -/
def slices_DeleteFunc_api_Used_api_Used_a0_b : AC :=
  .seq (.reg false [
      ⟨some 4, .mov (.c (.sl true 2 [])), none⟩]) (.seq (.reg false [
      ⟨some 8, .mov (.t 0), none⟩,
      ⟨some 9, .mov (.t 1), none⟩,
      ⟨some 10, .call 145 [.t 8, .t 9], none⟩,
      ⟨some 5, .mov (.t 10), none⟩]) (.seq (.seq (.reg false [
      ⟨some 11, .mov (.t 5), none⟩,
      ⟨some 12, .bin .eql (.t 11) (.c (.int .i64 (-1))), none⟩]) (.cond (.t 12) (.seq (.reg false [
      ⟨some 13, .mov (.t 0), none⟩,
      ⟨some 4, .frz 13 2, none⟩]) (.ret)) (.skip))) (.seq (.seq (.reg false [
      ⟨some 14, .mov (.t 5), none⟩,
      ⟨some 15, .bin .add (.t 14) (.c (.int .i64 1)), none⟩,
      ⟨some 6, .mov (.t 15), none⟩]) (.block 0 (.loop (slices_DeleteFunc_api_Used_api_Used_a0_l0)))) (slices_DeleteFunc_api_Used_api_Used_a0_r0))))

def slices_DeleteFunc_api_Used_api_Used_a0 : AFun := { nparams := 2, ntmps := 42, res := [.tmp 4], keep := false, body := slices_DeleteFunc_api_Used_api_Used_a0_b }
theorem slices_DeleteFunc_api_Used_api_Used_a0_body : slices_DeleteFunc_api_Used_api_Used_a0.body = slices_DeleteFunc_api_Used_api_Used_a0_b := rfl
theorem slices_DeleteFunc_api_Used_api_Used_a0_res : slices_DeleteFunc_api_Used_api_Used_a0.res = [.tmp 4] := rfl
theorem slices_DeleteFunc_api_Used_api_Used_a0_keep : slices_DeleteFunc_api_Used_api_Used_a0.keep = false := rfl

def slices_IndexFunc_api_Used_api_Used_a0_l0 : AC :=
  .seq (.reg false [
      ⟨some 9, .bin .lss (.t 8) (.t 7), none⟩]) (.seq (.cond (.t 9) (.skip) (.exit 0)) (.seq (.block 1 (.seq (.reg false [
      ⟨some 10, .mov (.t 8), none⟩,
      ⟨some 5, .mov (.t 10), none⟩]) (.seq (.reg false [
      ⟨some 11, .mov (.t 1), none⟩,
      ⟨some 12, .mov (.t 0), none⟩,
      ⟨some 13, .mov (.t 5), none⟩,
      ⟨some 14, .idxa 2 (.t 12) (.t 13), none⟩,
      ⟨some 15, .ldg 14 2 true, none⟩,
      ⟨some 16, .callv (.t 11) [.t 15], none⟩]) (.cond (.t 16) (.seq (.reg false [
      ⟨some 17, .mov (.t 5), none⟩,
      ⟨some 4, .mov (.t 17), none⟩]) (.ret)) (.skip))))) (.reg false [
      ⟨some 18, .bin .add (.t 8) (.c (.int .i64 1)), none⟩,
      ⟨some 8, .mov (.t 18), none⟩])))

def slices_IndexFunc_api_Used_api_Used_a0_r0 : AC :=
  .seq (.reg false [
      ⟨some 4, .mov (.c (.int .i64 (-1))), none⟩]) (.ret)

/-- slices.IndexFunc[[]sealring/api.Used,sealring/api.Used]@a0 : 145 -/
def slices_IndexFunc_api_Used_api_Used_a0_b : AC :=
  .seq (.reg false [
      ⟨some 4, .mov (.c (.int .i64 0)), none⟩]) (.seq (.seq (.reg false [
      ⟨some 6, .mov (.t 0), none⟩,
      ⟨some 7, .lenl (.t 6), none⟩,
      ⟨some 8, .mov (.c (.int .i64 0)), none⟩]) (.block 0 (.loop (slices_IndexFunc_api_Used_api_Used_a0_l0)))) (slices_IndexFunc_api_Used_api_Used_a0_r0))

def slices_IndexFunc_api_Used_api_Used_a0 : AFun := { nparams := 2, ntmps := 19, res := [.tmp 4], keep := false, body := slices_IndexFunc_api_Used_api_Used_a0_b }
theorem slices_IndexFunc_api_Used_api_Used_a0_body : slices_IndexFunc_api_Used_api_Used_a0.body = slices_IndexFunc_api_Used_api_Used_a0_b := rfl
theorem slices_IndexFunc_api_Used_api_Used_a0_res : slices_IndexFunc_api_Used_api_Used_a0.res = [.tmp 4] := rfl
theorem slices_IndexFunc_api_Used_api_Used_a0_keep : slices_IndexFunc_api_Used_api_Used_a0.keep = false := rfl

def tbL : List (Nat × AFn) := [(0, .code sealringlaw54_TicketValid), (1, .code sealringlaw54_awake), (2, .code ticket_New), (3, .code ticket_serverName), (4, .code ticket_isName), (5, .code ticket_atom), (6, .code term_Valid), (7, .code term_check), (8, .code term_isName), (9, .code term_part), (10, .orc (pureOrc anyO)), (16, .code ticket_in), (17, .code ticket_epochKey), (18, .orc (pureOrc itoaO)), (25, .code ticket_Issue), (26, .code ticket_call), (27, .code ticket_Valid), (28, .code ticket_keys), (29, .code ticket_same), (30, .code term_Compare), (31, .code term_Size), (32, .code term_sign), (33, .orc (pureOrc cmpO)), (36, .code ticket_used), (37, .code ticket_early), (38, .code ticket_ticketKey), (39, .code ticket_number), (40, .code theory_Tuple), (41, .code theory_Valid), (42, .code theory_check), (43, .code theory_symbol), (44, .code theory_Symbols), (45, .code theory_Symbols_c1), (46, .code theory_copied), (47, .code term_At), (48, .code term_clone), (49, .code theory_app), (50, .code ticket_copied), (51, .orc (cloneO false 72 6)), (52, .orc (cloneO false 16 2)), (53, .code sealringref01_Format), (54, .code sealringref01_Valid), (55, .code sealringref01_nodes), (56, .code sealringref01_node), (57, .code sealringref01_IsName), (58, .code sealringref01_letter), (59, .code sealringref01_digit), (60, .code sealringref01_Size), (61, .code sealringref01_Depth), (62, .code sealringref01_Text), (63, .code sealringref01_word), (64, .code ticket_Rotate), (65, .code ticket_copied_k), (66, .orc (cloneO true 72 6)), (67, .code ticket_Resume), (68, .code ticket_Read), (69, .code ticket_parts), (70, .code theory_Untuple), (71, .code theory_is), (72, .code ticket_read), (73, .code strings_CutPrefix), (74, .code internal_stringslite_CutPrefix), (75, .code internal_stringslite_HasPrefix), (76, .orc (pureOrc atoiO)), (79, .code ticket_Read_c1), (80, .code slices_ContainsFunc_api_Epoch_api_Epoch), (81, .code slices_IndexFunc_api_Epoch_api_Epoch), (82, .code ticket_accept), (83, .code ticket_place), (84, .code ticket_place_c1), (85, .code slices_BinarySearchFunc_api_Used_api_Used_int), (86, .code ticket_copied_u), (87, .orc (cloneO true 16 2)), (89, .code sealringref01_Same), (90, .code sealringref01_Compare), (91, .code sealringref01_number), (92, .code ticket_Expire), (93, .code ticket_copied_ku), (94, .code ticket_Expire_c1), (96, .code ticket_Expire_c2), (99, .code ticket_Knows), (100, .code sealringref54_Few), (101, .code sealringref01_Few), (102, .code sealringref01_budget), (103, .code sealringref54_New), (104, .code sealringref54_rightName), (105, .code sealringref54_EpochKey), (106, .code sealringref54_digits), (107, .code sealringref01_Atom), (108, .code sealringref54_Same), (109, .code sealringref54_Valid), (110, .code sealringref54_rightKeys), (111, .code sealringref54_Knows), (112, .code sealringref01_Lists), (113, .code sealringlaw54_TicketIssue), (114, .code sealringlaw54_own), (115, .code sealringref54_Issue), (116, .code sealringref54_called), (117, .code sealringref54_TicketKey), (118, .code sealringref54_Written), (119, .code sealringref54_Number), (120, .code sealringref01_App), (121, .code sealringref54_Rotate), (122, .code sealringref54_Expire), (123, .code sealringlaw54_TicketResume), (124, .code sealringref54_Resume), (125, .code sealringref54_Read), (126, .code sealringref09_Valid), (127, .code sealringref09_nodes), (128, .code sealringref09_Kind), (129, .code sealringref09_Symbols), (130, .code sealringref09_fits), (131, .code sealringref09_agents), (132, .code sealringref09_Is), (133, .code sealringref09_Untuple), (134, .code sealringref54_number), (135, .code sealringref54_has), (136, .code sealringlaw54_TicketPlay), (137, .code sealringref54_Played), (138, .code sealringref54_Next), (139, .code sealringlaw54_TicketKept), (140, .code sealringlaw54_TicketOnce), (141, .orc (insO false 16 2)), (142, .code slices_DeleteFunc_api_Epoch_api_Epoch_a0), (143, .code slices_IndexFunc_api_Epoch_api_Epoch_a0), (144, .code slices_DeleteFunc_api_Used_api_Used_a0), (145, .code slices_IndexFunc_api_Used_api_Used_a0)]
def tb : Nat → Option AFn := fun f => tbL.lookup f
theorem tb_0 : tb 0 = some (.code sealringlaw54_TicketValid) := rfl
theorem tb_1 : tb 1 = some (.code sealringlaw54_awake) := rfl
theorem tb_2 : tb 2 = some (.code ticket_New) := rfl
theorem tb_3 : tb 3 = some (.code ticket_serverName) := rfl
theorem tb_4 : tb 4 = some (.code ticket_isName) := rfl
theorem tb_5 : tb 5 = some (.code ticket_atom) := rfl
theorem tb_6 : tb 6 = some (.code term_Valid) := rfl
theorem tb_7 : tb 7 = some (.code term_check) := rfl
theorem tb_8 : tb 8 = some (.code term_isName) := rfl
theorem tb_9 : tb 9 = some (.code term_part) := rfl
theorem tb_10 : tb 10 = some (.orc (pureOrc anyO)) := rfl
theorem tb_16 : tb 16 = some (.code ticket_in) := rfl
theorem tb_17 : tb 17 = some (.code ticket_epochKey) := rfl
theorem tb_18 : tb 18 = some (.orc (pureOrc itoaO)) := rfl
theorem tb_25 : tb 25 = some (.code ticket_Issue) := rfl
theorem tb_26 : tb 26 = some (.code ticket_call) := rfl
theorem tb_27 : tb 27 = some (.code ticket_Valid) := rfl
theorem tb_28 : tb 28 = some (.code ticket_keys) := rfl
theorem tb_29 : tb 29 = some (.code ticket_same) := rfl
theorem tb_30 : tb 30 = some (.code term_Compare) := rfl
theorem tb_31 : tb 31 = some (.code term_Size) := rfl
theorem tb_32 : tb 32 = some (.code term_sign) := rfl
theorem tb_33 : tb 33 = some (.orc (pureOrc cmpO)) := rfl
theorem tb_36 : tb 36 = some (.code ticket_used) := rfl
theorem tb_37 : tb 37 = some (.code ticket_early) := rfl
theorem tb_38 : tb 38 = some (.code ticket_ticketKey) := rfl
theorem tb_39 : tb 39 = some (.code ticket_number) := rfl
theorem tb_40 : tb 40 = some (.code theory_Tuple) := rfl
theorem tb_41 : tb 41 = some (.code theory_Valid) := rfl
theorem tb_42 : tb 42 = some (.code theory_check) := rfl
theorem tb_43 : tb 43 = some (.code theory_symbol) := rfl
theorem tb_44 : tb 44 = some (.code theory_Symbols) := rfl
theorem tb_45 : tb 45 = some (.code theory_Symbols_c1) := rfl
theorem tb_46 : tb 46 = some (.code theory_copied) := rfl
theorem tb_47 : tb 47 = some (.code term_At) := rfl
theorem tb_48 : tb 48 = some (.code term_clone) := rfl
theorem tb_49 : tb 49 = some (.code theory_app) := rfl
theorem tb_50 : tb 50 = some (.code ticket_copied) := rfl
theorem tb_51 : tb 51 = some (.orc (cloneO false 72 6)) := rfl
theorem tb_52 : tb 52 = some (.orc (cloneO false 16 2)) := rfl
theorem tb_53 : tb 53 = some (.code sealringref01_Format) := rfl
theorem tb_54 : tb 54 = some (.code sealringref01_Valid) := rfl
theorem tb_55 : tb 55 = some (.code sealringref01_nodes) := rfl
theorem tb_56 : tb 56 = some (.code sealringref01_node) := rfl
theorem tb_57 : tb 57 = some (.code sealringref01_IsName) := rfl
theorem tb_58 : tb 58 = some (.code sealringref01_letter) := rfl
theorem tb_59 : tb 59 = some (.code sealringref01_digit) := rfl
theorem tb_60 : tb 60 = some (.code sealringref01_Size) := rfl
theorem tb_61 : tb 61 = some (.code sealringref01_Depth) := rfl
theorem tb_62 : tb 62 = some (.code sealringref01_Text) := rfl
theorem tb_63 : tb 63 = some (.code sealringref01_word) := rfl
theorem tb_64 : tb 64 = some (.code ticket_Rotate) := rfl
theorem tb_65 : tb 65 = some (.code ticket_copied_k) := rfl
theorem tb_66 : tb 66 = some (.orc (cloneO true 72 6)) := rfl
theorem tb_67 : tb 67 = some (.code ticket_Resume) := rfl
theorem tb_68 : tb 68 = some (.code ticket_Read) := rfl
theorem tb_69 : tb 69 = some (.code ticket_parts) := rfl
theorem tb_70 : tb 70 = some (.code theory_Untuple) := rfl
theorem tb_71 : tb 71 = some (.code theory_is) := rfl
theorem tb_72 : tb 72 = some (.code ticket_read) := rfl
theorem tb_73 : tb 73 = some (.code strings_CutPrefix) := rfl
theorem tb_74 : tb 74 = some (.code internal_stringslite_CutPrefix) := rfl
theorem tb_75 : tb 75 = some (.code internal_stringslite_HasPrefix) := rfl
theorem tb_76 : tb 76 = some (.orc (pureOrc atoiO)) := rfl
theorem tb_79 : tb 79 = some (.code ticket_Read_c1) := rfl
theorem tb_80 : tb 80 = some (.code slices_ContainsFunc_api_Epoch_api_Epoch) := rfl
theorem tb_81 : tb 81 = some (.code slices_IndexFunc_api_Epoch_api_Epoch) := rfl
theorem tb_82 : tb 82 = some (.code ticket_accept) := rfl
theorem tb_83 : tb 83 = some (.code ticket_place) := rfl
theorem tb_84 : tb 84 = some (.code ticket_place_c1) := rfl
theorem tb_85 : tb 85 = some (.code slices_BinarySearchFunc_api_Used_api_Used_int) := rfl
theorem tb_86 : tb 86 = some (.code ticket_copied_u) := rfl
theorem tb_87 : tb 87 = some (.orc (cloneO true 16 2)) := rfl
theorem tb_89 : tb 89 = some (.code sealringref01_Same) := rfl
theorem tb_90 : tb 90 = some (.code sealringref01_Compare) := rfl
theorem tb_91 : tb 91 = some (.code sealringref01_number) := rfl
theorem tb_92 : tb 92 = some (.code ticket_Expire) := rfl
theorem tb_93 : tb 93 = some (.code ticket_copied_ku) := rfl
theorem tb_94 : tb 94 = some (.code ticket_Expire_c1) := rfl
theorem tb_96 : tb 96 = some (.code ticket_Expire_c2) := rfl
theorem tb_99 : tb 99 = some (.code ticket_Knows) := rfl
theorem tb_100 : tb 100 = some (.code sealringref54_Few) := rfl
theorem tb_101 : tb 101 = some (.code sealringref01_Few) := rfl
theorem tb_102 : tb 102 = some (.code sealringref01_budget) := rfl
theorem tb_103 : tb 103 = some (.code sealringref54_New) := rfl
theorem tb_104 : tb 104 = some (.code sealringref54_rightName) := rfl
theorem tb_105 : tb 105 = some (.code sealringref54_EpochKey) := rfl
theorem tb_106 : tb 106 = some (.code sealringref54_digits) := rfl
theorem tb_107 : tb 107 = some (.code sealringref01_Atom) := rfl
theorem tb_108 : tb 108 = some (.code sealringref54_Same) := rfl
theorem tb_109 : tb 109 = some (.code sealringref54_Valid) := rfl
theorem tb_110 : tb 110 = some (.code sealringref54_rightKeys) := rfl
theorem tb_111 : tb 111 = some (.code sealringref54_Knows) := rfl
theorem tb_112 : tb 112 = some (.code sealringref01_Lists) := rfl
theorem tb_113 : tb 113 = some (.code sealringlaw54_TicketIssue) := rfl
theorem tb_114 : tb 114 = some (.code sealringlaw54_own) := rfl
theorem tb_115 : tb 115 = some (.code sealringref54_Issue) := rfl
theorem tb_116 : tb 116 = some (.code sealringref54_called) := rfl
theorem tb_117 : tb 117 = some (.code sealringref54_TicketKey) := rfl
theorem tb_118 : tb 118 = some (.code sealringref54_Written) := rfl
theorem tb_119 : tb 119 = some (.code sealringref54_Number) := rfl
theorem tb_120 : tb 120 = some (.code sealringref01_App) := rfl
theorem tb_121 : tb 121 = some (.code sealringref54_Rotate) := rfl
theorem tb_122 : tb 122 = some (.code sealringref54_Expire) := rfl
theorem tb_123 : tb 123 = some (.code sealringlaw54_TicketResume) := rfl
theorem tb_124 : tb 124 = some (.code sealringref54_Resume) := rfl
theorem tb_125 : tb 125 = some (.code sealringref54_Read) := rfl
theorem tb_126 : tb 126 = some (.code sealringref09_Valid) := rfl
theorem tb_127 : tb 127 = some (.code sealringref09_nodes) := rfl
theorem tb_128 : tb 128 = some (.code sealringref09_Kind) := rfl
theorem tb_129 : tb 129 = some (.code sealringref09_Symbols) := rfl
theorem tb_130 : tb 130 = some (.code sealringref09_fits) := rfl
theorem tb_131 : tb 131 = some (.code sealringref09_agents) := rfl
theorem tb_132 : tb 132 = some (.code sealringref09_Is) := rfl
theorem tb_133 : tb 133 = some (.code sealringref09_Untuple) := rfl
theorem tb_134 : tb 134 = some (.code sealringref54_number) := rfl
theorem tb_135 : tb 135 = some (.code sealringref54_has) := rfl
theorem tb_136 : tb 136 = some (.code sealringlaw54_TicketPlay) := rfl
theorem tb_137 : tb 137 = some (.code sealringref54_Played) := rfl
theorem tb_138 : tb 138 = some (.code sealringref54_Next) := rfl
theorem tb_139 : tb 139 = some (.code sealringlaw54_TicketKept) := rfl
theorem tb_140 : tb 140 = some (.code sealringlaw54_TicketOnce) := rfl
theorem tb_141 : tb 141 = some (.orc (insO false 16 2)) := rfl
theorem tb_142 : tb 142 = some (.code slices_DeleteFunc_api_Epoch_api_Epoch_a0) := rfl
theorem tb_143 : tb 143 = some (.code slices_IndexFunc_api_Epoch_api_Epoch_a0) := rfl
theorem tb_144 : tb 144 = some (.code slices_DeleteFunc_api_Used_api_Used_a0) := rfl
theorem tb_145 : tb 145 = some (.code slices_IndexFunc_api_Used_api_Used_a0) := rfl
end Go.Am.F
