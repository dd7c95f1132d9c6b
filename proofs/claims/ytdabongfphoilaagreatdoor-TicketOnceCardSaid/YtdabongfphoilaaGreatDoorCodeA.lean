/-
  AM: the code of the functions, first part.
-/
import Derived.Test.YtdabongfphoilaaGreatDoorMachH
set_option linter.unusedVariables false
set_option linter.unusedSimpArgs false

namespace Go.Am.F

/-- sealring/sealringlaw54.TicketValid : 0 -/
def sealringlaw54_TicketValid_b : AC :=
  .seq (.reg false [
      ⟨some 3, .box (.t 0), none⟩,
      ⟨some 6, .mov (.c (.bool false)), none⟩]) (.seq (.seq (.reg false [
      ⟨some 11, .call 1 [], none⟩,
      ⟨some 12, .un .not (.t 11), none⟩,
      ⟨some 13, .mov (.t 12), none⟩,
      ⟨some 14, .ldf 3 0 7 true, some (13, false)⟩,
      ⟨some 15, .call 100 [.t 14], some (13, false)⟩,
      ⟨some 16, .un .not (.t 15), some (13, false)⟩,
      ⟨some 17, .pick (.t 13) (.c (.bool true)) (.t 16), none⟩,
      ⟨some 18, .mov (.t 17), none⟩,
      ⟨some 19, .mov (.t 1), some (18, false)⟩,
      ⟨some 20, .lens (.t 19), some (18, false)⟩,
      ⟨some 21, .bin .gtr (.t 20) (.c (.int .i64 60)), some (18, false)⟩,
      ⟨some 22, .pick (.t 18) (.c (.bool true)) (.t 21), none⟩]) (.cond (.t 22) (.seq (.reg false [
      ⟨some 23, .call 1 [], none⟩,
      ⟨some 6, .mov (.t 23), none⟩]) (.ret)) (.skip))) (.seq (.reg false [
      ⟨some 25, .mov (.t 1), none⟩,
      ⟨some 26, .mov (.t 2), none⟩,
      ⟨some 27, .call 2 [.t 25, .t 26], none⟩,
      ⟨some 24, .mov (.t 27), none⟩,
      ⟨some 28, .ext (.t 24) 0, none⟩,
      ⟨some 29, .ext (.t 24) 1, none⟩,
      ⟨some 7, .alloc [.str [], .int .i64 0, .sl true 6 [], .int .i64 0, .sl true 2 [], .int .i64 0, .int .i64 0], none⟩,
      ⟨none, .stf 7 0 7 (.t 28), none⟩,
      ⟨some 8, .mov (.t 29), none⟩]) (.seq (.reg false [
      ⟨some 31, .mov (.t 1), none⟩,
      ⟨some 32, .mov (.t 2), none⟩,
      ⟨some 33, .call 103 [.t 31, .t 32], none⟩,
      ⟨some 30, .mov (.t 33), none⟩,
      ⟨some 34, .ext (.t 30) 0, none⟩,
      ⟨some 35, .ext (.t 30) 1, none⟩,
      ⟨some 9, .alloc [.str [], .int .i64 0, .sl true 6 [], .int .i64 0, .sl true 2 [], .int .i64 0, .int .i64 0], none⟩,
      ⟨none, .stf 9 0 7 (.t 34), none⟩,
      ⟨some 10, .mov (.t 35), none⟩]) (.seq (.reg true [
      ⟨some 36, .mov (.t 8), none⟩,
      ⟨some 37, .mov (.t 10), none⟩,
      ⟨some 38, .bin .eql (.t 36) (.t 37), none⟩,
      ⟨some 39, .mov (.t 38), none⟩,
      ⟨some 40, .ldf 7 0 7 true, some (39, true)⟩,
      ⟨some 41, .ldf 9 0 7 true, some (39, true)⟩,
      ⟨some 42, .call 108 [.t 40, .t 41], some (39, true)⟩,
      ⟨some 43, .pick (.t 39) (.t 42) (.c (.bool false)), none⟩,
      ⟨some 44, .mov (.t 43), none⟩,
      ⟨some 45, .ldf 3 0 7 true, some (44, true)⟩,
      ⟨some 46, .call 27 [.t 45], some (44, true)⟩,
      ⟨some 47, .ldf 3 0 7 true, some (44, true)⟩,
      ⟨some 48, .call 109 [.t 47], some (44, true)⟩,
      ⟨some 49, .bin .eql (.t 46) (.t 48), some (44, true)⟩,
      ⟨some 50, .pick (.t 44) (.t 49) (.c (.bool false)), none⟩,
      ⟨some 51, .mov (.t 50), none⟩,
      ⟨some 52, .ldf 3 0 7 true, some (51, true)⟩,
      ⟨some 53, .call 99 [.t 52], some (51, true)⟩,
      ⟨some 54, .ldf 3 0 7 true, some (51, true)⟩,
      ⟨some 55, .call 111 [.t 54], some (51, true)⟩,
      ⟨some 56, .call 112 [.t 53, .t 55], some (51, true)⟩,
      ⟨some 57, .pick (.t 51) (.t 56) (.c (.bool false)), none⟩,
      ⟨some 6, .mov (.t 57), none⟩]) (.ret)))))

def sealringlaw54_TicketValid : AFun := { nparams := 3, ntmps := 58, res := [.tmp 6], keep := false, body := sealringlaw54_TicketValid_b }
theorem sealringlaw54_TicketValid_body : sealringlaw54_TicketValid.body = sealringlaw54_TicketValid_b := rfl
theorem sealringlaw54_TicketValid_res : sealringlaw54_TicketValid.res = [.tmp 6] := rfl
theorem sealringlaw54_TicketValid_keep : sealringlaw54_TicketValid.keep = false := rfl

/-- sealring/sealringlaw54.awake : 1 -/
def sealringlaw54_awake_b : AC :=
  .seq (.reg false [
      ⟨some 0, .mov (.c (.bool false)), none⟩]) (.seq (.reg false [
      ⟨some 17, .call 2 [.c (.str [115, 114, 118]), .c (.int .i64 10)], none⟩,
      ⟨some 16, .mov (.t 17), none⟩,
      ⟨some 18, .ext (.t 16) 0, none⟩,
      ⟨some 19, .ext (.t 16) 1, none⟩,
      ⟨some 1, .alloc [.str [], .int .i64 0, .sl true 6 [], .int .i64 0, .sl true 2 [], .int .i64 0, .int .i64 0], none⟩,
      ⟨none, .stf 1 0 7 (.t 18), none⟩,
      ⟨some 2, .mov (.t 19), none⟩]) (.seq (.reg false [
      ⟨some 21, .ldf 1 0 7 true, none⟩,
      ⟨some 22, .call 25 [.t 21, .c (.str [97]), .c (.int .i64 5)], none⟩,
      ⟨some 20, .mov (.t 22), none⟩,
      ⟨some 23, .ext (.t 20) 0, none⟩,
      ⟨some 24, .ext (.t 20) 1, none⟩,
      ⟨some 25, .ext (.t 20) 2, none⟩,
      ⟨some 26, .ext (.t 20) 3, none⟩,
      ⟨some 3, .alloc [.int .i64 0, .str [], .int .i64 0, .sl true 4 []], none⟩,
      ⟨some 4, .alloc [.int .i64 0, .str [], .int .i64 0, .sl true 4 []], none⟩,
      ⟨none, .stf 1 0 7 (.t 23), none⟩,
      ⟨none, .stf 3 0 4 (.t 24), none⟩,
      ⟨none, .stf 4 0 4 (.t 25), none⟩,
      ⟨some 5, .mov (.t 26), none⟩]) (.seq (.reg false [
      ⟨some 28, .ldf 3 0 4 true, none⟩,
      ⟨some 29, .call 53 [.t 28], none⟩,
      ⟨some 27, .mov (.t 29), none⟩,
      ⟨some 30, .ext (.t 27) 0, none⟩,
      ⟨some 31, .ext (.t 27) 1, none⟩,
      ⟨some 6, .mov (.t 30), none⟩,
      ⟨some 7, .mov (.t 31), none⟩]) (.seq (.reg false [
      ⟨some 33, .ldf 1 0 7 true, none⟩,
      ⟨some 34, .call 64 [.t 33, .c (.int .i64 6)], none⟩,
      ⟨some 32, .mov (.t 34), none⟩,
      ⟨some 35, .ext (.t 32) 0, none⟩,
      ⟨some 36, .ext (.t 32) 1, none⟩,
      ⟨some 8, .alloc [.str [], .int .i64 0, .sl true 6 [], .int .i64 0, .sl true 2 [], .int .i64 0, .int .i64 0], none⟩,
      ⟨none, .stf 8 0 7 (.t 35), none⟩,
      ⟨some 9, .mov (.t 36), none⟩]) (.seq (.reg false [
      ⟨some 38, .ldf 8 0 7 true, none⟩,
      ⟨some 39, .ldf 3 0 4 true, none⟩,
      ⟨some 40, .call 67 [.t 38, .t 39, .c (.int .i64 15)], none⟩,
      ⟨some 37, .mov (.t 40), none⟩,
      ⟨some 41, .ext (.t 37) 0, none⟩,
      ⟨some 42, .ext (.t 37) 1, none⟩,
      ⟨some 43, .ext (.t 37) 2, none⟩,
      ⟨some 10, .alloc [.str [], .int .i64 0, .sl true 6 [], .int .i64 0, .sl true 2 [], .int .i64 0, .int .i64 0], none⟩,
      ⟨some 11, .alloc [.int .i64 0, .str [], .int .i64 0, .sl true 4 []], none⟩,
      ⟨none, .stf 10 0 7 (.t 41), none⟩,
      ⟨none, .stf 11 0 4 (.t 42), none⟩,
      ⟨some 12, .mov (.t 43), none⟩]) (.seq (.reg false [
      ⟨some 45, .ldf 8 0 7 true, none⟩,
      ⟨some 46, .ldf 3 0 4 true, none⟩,
      ⟨some 47, .call 67 [.t 45, .t 46, .c (.int .i64 16)], none⟩,
      ⟨some 44, .mov (.t 47), none⟩,
      ⟨some 48, .ext (.t 44) 0, none⟩,
      ⟨some 49, .ext (.t 44) 1, none⟩,
      ⟨some 50, .ext (.t 44) 2, none⟩,
      ⟨some 13, .alloc [.str [], .int .i64 0, .sl true 6 [], .int .i64 0, .sl true 2 [], .int .i64 0, .int .i64 0], none⟩,
      ⟨some 14, .alloc [.int .i64 0, .str [], .int .i64 0, .sl true 4 []], none⟩,
      ⟨none, .stf 13 0 7 (.t 48), none⟩,
      ⟨none, .stf 14 0 4 (.t 49), none⟩,
      ⟨some 15, .mov (.t 50), none⟩]) (.seq (.seq (.reg false [
      ⟨some 51, .mov (.t 2), none⟩,
      ⟨some 52, .bin .neq (.t 51) (.c (.int .i64 0)), none⟩,
      ⟨some 53, .mov (.t 52), none⟩,
      ⟨some 54, .mov (.t 5), some (53, false)⟩,
      ⟨some 55, .bin .neq (.t 54) (.c (.int .i64 0)), some (53, false)⟩,
      ⟨some 56, .pick (.t 53) (.c (.bool true)) (.t 55), none⟩,
      ⟨some 57, .mov (.t 56), none⟩,
      ⟨some 58, .mov (.t 9), some (57, false)⟩,
      ⟨some 59, .bin .neq (.t 58) (.c (.int .i64 0)), some (57, false)⟩,
      ⟨some 60, .pick (.t 57) (.c (.bool true)) (.t 59), none⟩,
      ⟨some 61, .mov (.t 60), none⟩,
      ⟨some 62, .mov (.t 12), some (61, false)⟩,
      ⟨some 63, .bin .neq (.t 62) (.c (.int .i64 0)), some (61, false)⟩,
      ⟨some 64, .pick (.t 61) (.c (.bool true)) (.t 63), none⟩,
      ⟨some 65, .mov (.t 64), none⟩,
      ⟨some 66, .mov (.t 15), some (65, false)⟩,
      ⟨some 67, .bin .neq (.t 66) (.c (.int .i64 20)), some (65, false)⟩,
      ⟨some 68, .pick (.t 65) (.c (.bool true)) (.t 67), none⟩,
      ⟨some 69, .mov (.t 68), none⟩,
      ⟨some 70, .ldf 4 0 4 true, some (69, false)⟩,
      ⟨some 71, .ldf 11 0 4 true, some (69, false)⟩,
      ⟨some 72, .call 89 [.t 70, .t 71], some (69, false)⟩,
      ⟨some 73, .un .not (.t 72), some (69, false)⟩,
      ⟨some 74, .pick (.t 69) (.c (.bool true)) (.t 73), none⟩]) (.cond (.t 74) (.seq (.reg false [
      ⟨some 0, .mov (.c (.bool false)), none⟩]) (.ret)) (.skip))) (.seq (.reg false [
      ⟨some 75, .mov (.t 6), none⟩,
      ⟨some 76, .bin .eql (.t 75) (.c (.str [101, 110, 99, 40, 112, 97, 105, 114, 40, 97, 58, 97, 103, 101, 110, 116, 44, 32, 112, 97, 105, 114, 40, 115, 114, 118, 95, 48, 58, 107, 101, 121, 44, 32, 112, 97, 105, 114, 40, 110, 35, 48, 58, 100, 97, 116, 97, 44, 32, 110, 35, 49, 53, 58, 100, 97, 116, 97, 41, 41, 41, 44, 32, 115, 114, 118, 35, 48, 58, 107, 101, 121, 41])), none⟩,
      ⟨some 77, .mov (.t 76), none⟩,
      ⟨some 78, .ldf 8 0 7 true, some (77, true)⟩,
      ⟨some 79, .call 92 [.t 78, .c (.int .i64 16)], some (77, true)⟩,
      ⟨some 80, .call 99 [.t 79], some (77, true)⟩,
      ⟨some 81, .lenl (.t 80), some (77, true)⟩,
      ⟨some 82, .bin .eql (.t 81) (.c (.int .i64 2)), some (77, true)⟩,
      ⟨some 83, .pick (.t 77) (.t 82) (.c (.bool false)), none⟩,
      ⟨some 84, .mov (.t 83), none⟩,
      ⟨some 85, .ldf 8 0 7 true, some (84, true)⟩,
      ⟨some 86, .call 92 [.t 85, .c (.int .i64 17)], some (84, true)⟩,
      ⟨some 87, .call 99 [.t 86], some (84, true)⟩,
      ⟨some 88, .lenl (.t 87), some (84, true)⟩,
      ⟨some 89, .bin .eql (.t 88) (.c (.int .i64 1)), some (84, true)⟩,
      ⟨some 90, .pick (.t 84) (.t 89) (.c (.bool false)), none⟩,
      ⟨some 0, .mov (.t 90), none⟩]) (.ret)))))))))

def sealringlaw54_awake : AFun := { nparams := 0, ntmps := 91, res := [.tmp 0], keep := false, body := sealringlaw54_awake_b }
theorem sealringlaw54_awake_body : sealringlaw54_awake.body = sealringlaw54_awake_b := rfl
theorem sealringlaw54_awake_res : sealringlaw54_awake.res = [.tmp 0] := rfl
theorem sealringlaw54_awake_keep : sealringlaw54_awake.keep = false := rfl

/-- sealring/ticket.New : 2 -/
def ticket_New_b : AC :=
  .seq (.reg false [
      ⟨some 4, .alloc [.str [], .int .i64 0, .sl true 6 [], .int .i64 0, .sl true 2 [], .int .i64 0, .int .i64 0], none⟩,
      ⟨some 5, .mov (.c (.int .i64 0)), none⟩]) (.seq (.block 0 (.seq (.reg false [
      ⟨some 7, .mov (.t 0), none⟩,
      ⟨some 8, .call 3 [.t 7], none⟩,
      ⟨some 9, .un .not (.t 8), none⟩,
      ⟨some 6, .mov (.t 9), none⟩]) (.cond (.t 6) (.seq (.reg false [
      ⟨some 10, .mkst [.str [], .int .i64 0, .sl true 6 [], .int .i64 0, .sl true 2 [], .int .i64 0, .int .i64 0] [], none⟩,
      ⟨none, .stf 4 0 7 (.t 10), none⟩,
      ⟨some 5, .mov (.c (.int .i64 2)), none⟩]) (.ret)) (.seq (.reg false [
      ⟨some 12, .mov (.t 1), none⟩,
      ⟨some 13, .call 16 [.t 12, .c (.int .i64 1), .c (.int .i64 1000)], none⟩,
      ⟨some 14, .un .not (.t 13), none⟩,
      ⟨some 11, .mov (.t 14), none⟩]) (.cond (.t 11) (.seq (.reg false [
      ⟨some 15, .mkst [.str [], .int .i64 0, .sl true 6 [], .int .i64 0, .sl true 2 [], .int .i64 0, .int .i64 0] [], none⟩,
      ⟨none, .stf 4 0 7 (.t 15), none⟩,
      ⟨some 5, .mov (.c (.int .i64 7)), none⟩]) (.ret)) (.skip)))))) (.seq (.reg false [
      ⟨some 16, .mov (.t 0), none⟩,
      ⟨some 17, .mov (.t 1), none⟩,
      ⟨some 18, .mov (.t 0), none⟩,
      ⟨some 19, .call 17 [.t 18, .c (.int .i64 0)], none⟩,
      ⟨some 20, .mkst [.int .i64 0, .int .i64 0, .int .i64 0, .str [], .int .i64 0, .sl true 4 []] [(2, 4, .t 19)], none⟩,
      ⟨some 21, .mksl 6 [.t 20], none⟩,
      ⟨some 22, .mkst [.str [], .int .i64 0, .sl true 6 [], .int .i64 0, .sl true 2 [], .int .i64 0, .int .i64 0] [(0, 1, .t 16), (5, 1, .t 17), (2, 1, .t 21)], none⟩,
      ⟨none, .stf 4 0 7 (.t 22), none⟩,
      ⟨some 5, .mov (.c (.int .i64 0)), none⟩]) (.ret)))

def ticket_New : AFun := { nparams := 2, ntmps := 23, res := [.cell 4 7 true, .tmp 5], keep := false, body := ticket_New_b }
theorem ticket_New_body : ticket_New.body = ticket_New_b := rfl
theorem ticket_New_res : ticket_New.res = [.cell 4 7 true, .tmp 5] := rfl
theorem ticket_New_keep : ticket_New.keep = false := rfl

/-- sealring/ticket.serverName : 3 -/
def ticket_serverName_b : AC :=
  .seq (.reg false [
      ⟨some 2, .mov (.c (.bool false)), none⟩]) (.seq (.reg false [
      ⟨some 3, .mov (.t 0), none⟩,
      ⟨some 4, .call 4 [.t 3], none⟩,
      ⟨some 5, .mov (.t 4), none⟩,
      ⟨some 6, .mov (.t 0), some (5, true)⟩,
      ⟨some 7, .lens (.t 6), some (5, true)⟩,
      ⟨some 8, .bin .leq (.t 7) (.c (.int .i64 10)), some (5, true)⟩,
      ⟨some 9, .pick (.t 5) (.t 8) (.c (.bool false)), none⟩,
      ⟨some 10, .mov (.t 9), none⟩,
      ⟨some 11, .mov (.t 0), some (10, true)⟩,
      ⟨some 12, .call 10 [.t 11, .c (.str [35, 95])], some (10, true)⟩,
      ⟨some 13, .un .not (.t 12), some (10, true)⟩,
      ⟨some 14, .pick (.t 10) (.t 13) (.c (.bool false)), none⟩,
      ⟨some 15, .mov (.t 14), none⟩,
      ⟨some 16, .mov (.t 0), some (15, true)⟩,
      ⟨some 17, .bin .neq (.t 16) (.c (.str [101])), some (15, true)⟩,
      ⟨some 18, .pick (.t 15) (.t 17) (.c (.bool false)), none⟩,
      ⟨some 2, .mov (.t 18), none⟩]) (.ret))

def ticket_serverName : AFun := { nparams := 1, ntmps := 19, res := [.tmp 2], keep := false, body := ticket_serverName_b }
theorem ticket_serverName_body : ticket_serverName.body = ticket_serverName_b := rfl
theorem ticket_serverName_res : ticket_serverName.res = [.tmp 2] := rfl
theorem ticket_serverName_keep : ticket_serverName.keep = false := rfl

/-- sealring/ticket.isName : 4 -/
def ticket_isName_b : AC :=
  .seq (.reg false [
      ⟨some 2, .mov (.c (.bool false)), none⟩]) (.seq (.reg false [
      ⟨some 3, .mov (.t 0), none⟩,
      ⟨some 4, .call 5 [.t 3, .c (.int .i64 1)], none⟩,
      ⟨some 5, .call 6 [.t 4], none⟩,
      ⟨some 6, .bin .eql (.t 5) (.c (.int .i64 0)), none⟩,
      ⟨some 2, .mov (.t 6), none⟩]) (.ret))

def ticket_isName : AFun := { nparams := 1, ntmps := 7, res := [.tmp 2], keep := false, body := ticket_isName_b }
theorem ticket_isName_body : ticket_isName.body = ticket_isName_b := rfl
theorem ticket_isName_res : ticket_isName.res = [.tmp 2] := rfl
theorem ticket_isName_keep : ticket_isName.keep = false := rfl

/-- sealring/ticket.atom : 5 -/
def ticket_atom_b : AC :=
  .seq (.reg false [
      ⟨some 4, .alloc [.int .i64 0, .str [], .int .i64 0, .sl true 4 []], none⟩]) (.seq (.reg false [
      ⟨some 5, .mov (.t 0), none⟩,
      ⟨some 6, .mov (.t 1), none⟩,
      ⟨some 7, .mkst [.int .i64 0, .str [], .int .i64 0, .sl true 4 []] [(0, 1, .c (.int .i64 2)), (1, 1, .t 5), (2, 1, .t 6)], none⟩,
      ⟨none, .stf 4 0 4 (.t 7), none⟩]) (.ret))

def ticket_atom : AFun := { nparams := 2, ntmps := 8, res := [.cell 4 4 true], keep := false, body := ticket_atom_b }
theorem ticket_atom_body : ticket_atom.body = ticket_atom_b := rfl
theorem ticket_atom_res : ticket_atom.res = [.cell 4 4 true] := rfl
theorem ticket_atom_keep : ticket_atom.keep = false := rfl

/-- sealring/term.Valid : 6 -/
def term_Valid_b : AC :=
  .seq (.reg false [
      ⟨some 1, .box (.t 0), none⟩,
      ⟨some 2, .mov (.c (.int .i64 0)), none⟩]) (.seq (.reg false [
      ⟨some 3, .galloc [.int .i64 0], none⟩,
      ⟨some 4, .galloc [.int .i64 0], none⟩,
      ⟨none, .st 3 1 (.c (.int .i64 0)), none⟩,
      ⟨none, .st 4 1 (.c (.int .i64 0)), none⟩]) (.seq (.seq (.reg false [
      ⟨some 6, .ldf 1 0 4 true, none⟩,
      ⟨some 7, .call 7 [.t 6, .c (.int .i64 1), .t 3, .t 4], none⟩,
      ⟨some 5, .mov (.t 7), none⟩]) (.seq (.reg false [
      ⟨some 8, .mov (.t 5), none⟩,
      ⟨some 9, .bin .neq (.t 8) (.c (.int .i64 0)), none⟩]) (.cond (.t 9) (.seq (.reg false [
      ⟨some 10, .mov (.t 5), none⟩,
      ⟨some 2, .mov (.t 10), none⟩]) (.ret)) (.skip)))) (.seq (.seq (.reg false [
      ⟨some 11, .ldg 3 1 false, none⟩,
      ⟨some 12, .bin .gtr (.t 11) (.c (.int .i64 400)), none⟩,
      ⟨some 13, .mov (.t 12), none⟩,
      ⟨some 14, .ldg 4 1 false, some (13, false)⟩,
      ⟨some 15, .bin .gtr (.t 14) (.c (.int .i64 40)), some (13, false)⟩,
      ⟨some 16, .pick (.t 13) (.c (.bool true)) (.t 15), none⟩]) (.cond (.t 16) (.seq (.reg false [
      ⟨some 2, .mov (.c (.int .i64 3)), none⟩]) (.ret)) (.skip))) (.seq (.reg false [
      ⟨some 2, .mov (.c (.int .i64 0)), none⟩]) (.ret)))))

def term_Valid : AFun := { nparams := 1, ntmps := 17, res := [.tmp 2], keep := false, body := term_Valid_b }
theorem term_Valid_body : term_Valid.body = term_Valid_b := rfl
theorem term_Valid_res : term_Valid.res = [.tmp 2] := rfl
theorem term_Valid_keep : term_Valid.keep = false := rfl

def term_check_l0 : AC :=
  .seq (.reg false [
      ⟨some 60, .bin .lss (.t 59) (.t 58), none⟩]) (.seq (.cond (.t 60) (.skip) (.exit 1)) (.seq (.block 2 (.seq (.reg false [
      ⟨some 61, .idxa 4 (.t 57) (.t 59), none⟩,
      ⟨some 62, .ld 61 4 true, none⟩,
      ⟨some 10, .alloc [.int .i64 0, .str [], .int .i64 0, .sl true 4 []], none⟩,
      ⟨none, .stf 10 0 4 (.t 62), none⟩]) (.seq (.reg false [
      ⟨some 63, .ldf 10 0 4 true, none⟩,
      ⟨some 64, .mov (.t 1), none⟩,
      ⟨some 65, .bin .add (.t 64) (.c (.int .i64 1)), none⟩,
      ⟨some 66, .mov (.t 2), none⟩,
      ⟨some 67, .mov (.t 3), none⟩,
      ⟨some 68, .call 7 [.t 63, .t 65, .t 66, .t 67], none⟩,
      ⟨some 11, .mov (.t 68), none⟩]) (.seq (.reg false [
      ⟨some 69, .mov (.t 11), none⟩,
      ⟨some 70, .bin .neq (.t 69) (.c (.int .i64 0)), none⟩]) (.cond (.t 70) (.seq (.reg false [
      ⟨some 71, .mov (.t 11), none⟩,
      ⟨some 8, .mov (.t 71), none⟩]) (.ret)) (.skip)))))) (.reg false [
      ⟨some 72, .bin .add (.t 59) (.c (.int .i64 1)), none⟩,
      ⟨some 59, .mov (.t 72), none⟩])))

def term_check_r0 : AC :=
  .seq (.reg false [
      ⟨some 8, .mov (.c (.int .i64 0)), none⟩]) (.ret)

/-- sealring/term.check : 7 -/
def term_check_b : AC :=
  .seq (.reg false [
      ⟨some 4, .box (.t 0), none⟩,
      ⟨some 8, .mov (.c (.int .i64 0)), none⟩]) (.seq (.reg false [
      ⟨some 12, .mov (.t 2), none⟩,
      ⟨some 13, .nilck (.t 12), none⟩,
      ⟨some 14, .ldg 13 1 false, none⟩,
      ⟨some 15, .bin .add (.t 14) (.c (.int .i64 1)), none⟩,
      ⟨some 16, .nilck (.t 12), none⟩,
      ⟨none, .st 16 1 (.t 15), none⟩]) (.seq (.reg false [
      ⟨some 17, .mov (.t 3), none⟩,
      ⟨some 18, .mov (.t 3), none⟩,
      ⟨some 19, .nilck (.t 18), none⟩,
      ⟨some 20, .ldg 19 1 false, none⟩,
      ⟨some 21, .mov (.t 1), none⟩,
      ⟨some 22, .mx (.t 20) (.t 21), none⟩,
      ⟨some 23, .nilck (.t 17), none⟩,
      ⟨none, .st 23 1 (.t 22), none⟩]) (.seq (.seq (.reg false [
      ⟨some 24, .fad 4 0, none⟩,
      ⟨some 25, .ldf 4 0 1 false, none⟩]) (.block 0 (.seq (.seq (.reg false [
      ⟨some 27, .bin .eql (.t 25) (.c (.int .i64 1)), none⟩,
      ⟨some 26, .mov (.t 27), none⟩]) (.cond (.t 26) (.skip) (.reg false [
      ⟨some 28, .bin .eql (.t 25) (.c (.int .i64 2)), none⟩,
      ⟨some 26, .mov (.t 28), none⟩]))) (.cond (.t 26) (.seq (.reg false [
      ⟨some 29, .fad 4 2, none⟩,
      ⟨some 30, .ldf 4 2 1 false, none⟩,
      ⟨some 31, .bin .lss (.t 30) (.c (.int .i64 0)), none⟩,
      ⟨some 32, .mov (.t 31), none⟩,
      ⟨some 33, .fad 4 2, some (32, false)⟩,
      ⟨some 34, .ldf 4 2 1 false, some (32, false)⟩,
      ⟨some 35, .bin .gtr (.t 34) (.c (.int .i64 5)), some (32, false)⟩,
      ⟨some 36, .pick (.t 32) (.c (.bool true)) (.t 35), none⟩,
      ⟨some 37, .mov (.t 36), none⟩,
      ⟨some 38, .fad 4 3, some (37, false)⟩,
      ⟨some 39, .ldf 4 3 1 false, some (37, false)⟩,
      ⟨some 40, .lenl (.t 39), some (37, false)⟩,
      ⟨some 41, .bin .gtr (.t 40) (.c (.int .i64 0)), some (37, false)⟩,
      ⟨some 42, .pick (.t 37) (.c (.bool true)) (.t 41), none⟩]) (.cond (.t 42) (.seq (.reg false [
      ⟨some 8, .mov (.c (.int .i64 1)), none⟩]) (.ret)) (.skip))) (.seq (.reg false [
      ⟨some 44, .bin .eql (.t 25) (.c (.int .i64 3)), none⟩,
      ⟨some 43, .mov (.t 44), none⟩]) (.cond (.t 43) (.seq (.reg false [
      ⟨some 45, .fad 4 2, none⟩,
      ⟨some 46, .ldf 4 2 1 false, none⟩,
      ⟨some 47, .bin .neq (.t 46) (.c (.int .i64 0)), none⟩]) (.cond (.t 47) (.seq (.reg false [
      ⟨some 8, .mov (.c (.int .i64 1)), none⟩]) (.ret)) (.skip))) (.seq (.reg false [
      ⟨some 8, .mov (.c (.int .i64 1)), none⟩]) (.ret)))))))) (.seq (.seq (.reg false [
      ⟨some 48, .fad 4 1, none⟩,
      ⟨some 49, .ldf 4 1 1 false, none⟩,
      ⟨some 50, .call 8 [.t 49], none⟩,
      ⟨some 51, .un .not (.t 50), none⟩]) (.cond (.t 51) (.seq (.reg false [
      ⟨some 8, .mov (.c (.int .i64 2)), none⟩]) (.ret)) (.skip))) (.seq (.seq (.reg false [
      ⟨some 52, .fad 4 3, none⟩,
      ⟨some 53, .ldf 4 3 1 false, none⟩,
      ⟨some 54, .lenl (.t 53), none⟩,
      ⟨some 55, .bin .gtr (.t 54) (.c (.int .i64 8)), none⟩]) (.cond (.t 55) (.seq (.reg false [
      ⟨some 8, .mov (.c (.int .i64 3)), none⟩]) (.ret)) (.skip))) (.seq (.seq (.reg false [
      ⟨some 56, .fad 4 3, none⟩,
      ⟨some 57, .ldf 4 3 1 false, none⟩,
      ⟨some 58, .lenl (.t 57), none⟩,
      ⟨some 59, .mov (.c (.int .i64 0)), none⟩]) (.block 1 (.loop (term_check_l0)))) (term_check_r0)))))))

def term_check : AFun := { nparams := 4, ntmps := 73, res := [.tmp 8], keep := false, body := term_check_b }
theorem term_check_body : term_check.body = term_check_b := rfl
theorem term_check_res : term_check.res = [.tmp 8] := rfl
theorem term_check_keep : term_check.keep = false := rfl

def term_isName_l0 : AC :=
  .seq (.reg false [
      ⟨some 40, .bin .lss (.t 39) (.t 38), none⟩]) (.seq (.cond (.t 40) (.skip) (.exit 0)) (.seq (.block 1 (.seq (.reg false [
      ⟨some 41, .mov (.t 39), none⟩,
      ⟨some 3, .mov (.t 41), none⟩]) (.seq (.reg false [
      ⟨some 42, .mov (.t 0), none⟩,
      ⟨some 43, .mov (.t 3), none⟩,
      ⟨some 44, .idx (.t 42) (.t 43), none⟩,
      ⟨some 45, .call 9 [.t 44], none⟩,
      ⟨some 46, .un .not (.t 45), none⟩]) (.cond (.t 46) (.seq (.reg false [
      ⟨some 2, .mov (.c (.bool false)), none⟩]) (.ret)) (.skip))))) (.reg false [
      ⟨some 47, .bin .add (.t 39) (.c (.int .i64 1)), none⟩,
      ⟨some 39, .mov (.t 47), none⟩])))

def term_isName_r0 : AC :=
  .seq (.reg false [
      ⟨some 2, .mov (.c (.bool true)), none⟩]) (.ret)

/-- sealring/term.isName : 8 -/
def term_isName_b : AC :=
  .seq (.reg false [
      ⟨some 2, .mov (.c (.bool false)), none⟩]) (.seq (.seq (.reg false [
      ⟨some 4, .mov (.t 0), none⟩,
      ⟨some 5, .bin .eql (.t 4) (.c (.str [])), none⟩,
      ⟨some 6, .mov (.t 5), none⟩,
      ⟨some 7, .mov (.t 0), some (6, false)⟩,
      ⟨some 8, .lens (.t 7), some (6, false)⟩,
      ⟨some 9, .bin .gtr (.t 8) (.c (.int .i64 24)), some (6, false)⟩,
      ⟨some 10, .pick (.t 6) (.c (.bool true)) (.t 9), none⟩,
      ⟨some 11, .mov (.t 10), none⟩,
      ⟨some 12, .mov (.t 0), some (11, false)⟩,
      ⟨some 13, .idx (.t 12) (.c (.int .i64 0)), some (11, false)⟩,
      ⟨some 14, .call 9 [.t 13], some (11, false)⟩,
      ⟨some 15, .un .not (.t 14), some (11, false)⟩,
      ⟨some 16, .pick (.t 11) (.c (.bool true)) (.t 15), none⟩,
      ⟨some 17, .mov (.t 16), none⟩,
      ⟨some 18, .mov (.t 0), some (17, false)⟩,
      ⟨some 19, .idx (.t 18) (.c (.int .i64 0)), some (17, false)⟩,
      ⟨some 20, .bin .geq (.t 19) (.c (.int .u8 48)), some (17, false)⟩,
      ⟨some 21, .mov (.t 20), some (17, false)⟩,
      ⟨some 22, .mov (.t 0), some (21, true)⟩,
      ⟨some 23, .idx (.t 22) (.c (.int .i64 0)), some (21, true)⟩,
      ⟨some 24, .bin .leq (.t 23) (.c (.int .u8 57)), some (21, true)⟩,
      ⟨some 25, .pick (.t 21) (.t 24) (.c (.bool false)), some (17, false)⟩,
      ⟨some 26, .pick (.t 17) (.c (.bool true)) (.t 25), none⟩,
      ⟨some 27, .mov (.t 26), none⟩,
      ⟨some 28, .mov (.t 0), some (27, false)⟩,
      ⟨some 29, .idx (.t 28) (.c (.int .i64 0)), some (27, false)⟩,
      ⟨some 30, .bin .eql (.t 29) (.c (.int .u8 95)), some (27, false)⟩,
      ⟨some 31, .pick (.t 27) (.c (.bool true)) (.t 30), none⟩,
      ⟨some 32, .mov (.t 31), none⟩,
      ⟨some 33, .mov (.t 0), some (32, false)⟩,
      ⟨some 34, .idx (.t 33) (.c (.int .i64 0)), some (32, false)⟩,
      ⟨some 35, .bin .eql (.t 34) (.c (.int .u8 35)), some (32, false)⟩,
      ⟨some 36, .pick (.t 32) (.c (.bool true)) (.t 35), none⟩]) (.cond (.t 36) (.seq (.reg false [
      ⟨some 2, .mov (.c (.bool false)), none⟩]) (.ret)) (.skip))) (.seq (.seq (.reg false [
      ⟨some 37, .mov (.t 0), none⟩,
      ⟨some 38, .lens (.t 37), none⟩,
      ⟨some 39, .mov (.c (.int .i64 0)), none⟩]) (.block 0 (.loop (term_isName_l0)))) (term_isName_r0)))

def term_isName : AFun := { nparams := 1, ntmps := 48, res := [.tmp 2], keep := false, body := term_isName_b }
theorem term_isName_body : term_isName.body = term_isName_b := rfl
theorem term_isName_res : term_isName.res = [.tmp 2] := rfl
theorem term_isName_keep : term_isName.keep = false := rfl

/-- sealring/term.part : 9 -/
def term_part_b : AC :=
  .seq (.reg false [
      ⟨some 2, .mov (.c (.bool false)), none⟩]) (.seq (.reg false [
      ⟨some 3, .mov (.t 0), none⟩,
      ⟨some 4, .bin .geq (.t 3) (.c (.int .u8 97)), none⟩,
      ⟨some 5, .mov (.t 4), none⟩,
      ⟨some 6, .mov (.t 0), some (5, true)⟩,
      ⟨some 7, .bin .leq (.t 6) (.c (.int .u8 122)), some (5, true)⟩,
      ⟨some 8, .pick (.t 5) (.t 7) (.c (.bool false)), none⟩,
      ⟨some 9, .mov (.t 8), none⟩,
      ⟨some 10, .mov (.t 0), some (9, false)⟩,
      ⟨some 11, .bin .geq (.t 10) (.c (.int .u8 65)), some (9, false)⟩,
      ⟨some 12, .mov (.t 11), some (9, false)⟩,
      ⟨some 13, .mov (.t 0), some (12, true)⟩,
      ⟨some 14, .bin .leq (.t 13) (.c (.int .u8 90)), some (12, true)⟩,
      ⟨some 15, .pick (.t 12) (.t 14) (.c (.bool false)), some (9, false)⟩,
      ⟨some 16, .pick (.t 9) (.c (.bool true)) (.t 15), none⟩,
      ⟨some 17, .mov (.t 16), none⟩,
      ⟨some 18, .mov (.t 0), some (17, false)⟩,
      ⟨some 19, .bin .geq (.t 18) (.c (.int .u8 48)), some (17, false)⟩,
      ⟨some 20, .mov (.t 19), some (17, false)⟩,
      ⟨some 21, .mov (.t 0), some (20, true)⟩,
      ⟨some 22, .bin .leq (.t 21) (.c (.int .u8 57)), some (20, true)⟩,
      ⟨some 23, .pick (.t 20) (.t 22) (.c (.bool false)), some (17, false)⟩,
      ⟨some 24, .pick (.t 17) (.c (.bool true)) (.t 23), none⟩,
      ⟨some 25, .mov (.t 24), none⟩,
      ⟨some 26, .mov (.t 0), some (25, false)⟩,
      ⟨some 27, .bin .eql (.t 26) (.c (.int .u8 95)), some (25, false)⟩,
      ⟨some 28, .pick (.t 25) (.c (.bool true)) (.t 27), none⟩,
      ⟨some 29, .mov (.t 28), none⟩,
      ⟨some 30, .mov (.t 0), some (29, false)⟩,
      ⟨some 31, .bin .eql (.t 30) (.c (.int .u8 35)), some (29, false)⟩,
      ⟨some 32, .pick (.t 29) (.c (.bool true)) (.t 31), none⟩,
      ⟨some 2, .mov (.t 32), none⟩]) (.ret))

def term_part : AFun := { nparams := 1, ntmps := 33, res := [.tmp 2], keep := false, body := term_part_b }
theorem term_part_body : term_part.body = term_part_b := rfl
theorem term_part_res : term_part.res = [.tmp 2] := rfl
theorem term_part_keep : term_part.keep = false := rfl

/-- sealring/ticket.in : 16 -/
def ticket_in_b : AC :=
  .seq (.reg false [
      ⟨some 6, .mov (.c (.bool false)), none⟩]) (.seq (.reg false [
      ⟨some 7, .mov (.t 0), none⟩,
      ⟨some 8, .mov (.t 1), none⟩,
      ⟨some 9, .bin .geq (.t 7) (.t 8), none⟩,
      ⟨some 10, .mov (.t 9), none⟩,
      ⟨some 11, .mov (.t 0), some (10, true)⟩,
      ⟨some 12, .mov (.t 2), some (10, true)⟩,
      ⟨some 13, .bin .leq (.t 11) (.t 12), some (10, true)⟩,
      ⟨some 14, .pick (.t 10) (.t 13) (.c (.bool false)), none⟩,
      ⟨some 6, .mov (.t 14), none⟩]) (.ret))

def ticket_in : AFun := { nparams := 3, ntmps := 15, res := [.tmp 6], keep := false, body := ticket_in_b }
theorem ticket_in_body : ticket_in.body = ticket_in_b := rfl
theorem ticket_in_res : ticket_in.res = [.tmp 6] := rfl
theorem ticket_in_keep : ticket_in.keep = false := rfl

/-- sealring/ticket.epochKey : 17 -/
def ticket_epochKey_b : AC :=
  .seq (.reg false [
      ⟨some 4, .alloc [.int .i64 0, .str [], .int .i64 0, .sl true 4 []], none⟩]) (.seq (.reg false [
      ⟨some 5, .mov (.t 0), none⟩,
      ⟨some 6, .bin .add (.t 5) (.c (.str [35])), none⟩,
      ⟨some 7, .mov (.t 1), none⟩,
      ⟨some 8, .call 18 [.t 7], none⟩,
      ⟨some 9, .bin .add (.t 6) (.t 8), none⟩,
      ⟨some 10, .call 5 [.t 9, .c (.int .i64 3)], none⟩,
      ⟨none, .stf 4 0 4 (.t 10), none⟩]) (.ret))

def ticket_epochKey : AFun := { nparams := 2, ntmps := 11, res := [.cell 4 4 true], keep := false, body := ticket_epochKey_b }
theorem ticket_epochKey_body : ticket_epochKey.body = ticket_epochKey_b := rfl
theorem ticket_epochKey_res : ticket_epochKey.res = [.cell 4 4 true] := rfl
theorem ticket_epochKey_keep : ticket_epochKey.keep = false := rfl

/-- sealring/ticket.Issue : 25 -/
def ticket_Issue_b : AC :=
  .seq (.reg false [
      ⟨some 3, .box (.t 0), none⟩,
      ⟨some 6, .alloc [.str [], .int .i64 0, .sl true 6 [], .int .i64 0, .sl true 2 [], .int .i64 0, .int .i64 0], none⟩,
      ⟨some 7, .alloc [.int .i64 0, .str [], .int .i64 0, .sl true 4 []], none⟩,
      ⟨some 8, .alloc [.int .i64 0, .str [], .int .i64 0, .sl true 4 []], none⟩,
      ⟨some 9, .mov (.c (.int .i64 0)), none⟩]) (.seq (.reg false [
      ⟨some 16, .ldf 3 0 7 true, none⟩,
      ⟨some 17, .mov (.t 2), none⟩,
      ⟨some 18, .call 26 [.t 16, .t 17], none⟩,
      ⟨some 10, .mov (.t 18), none⟩]) (.seq (.block 0 (.seq (.reg false [
      ⟨some 20, .mov (.t 10), none⟩,
      ⟨some 21, .bin .neq (.t 20) (.c (.int .i64 0)), none⟩,
      ⟨some 19, .mov (.t 21), none⟩]) (.cond (.t 19) (.skip) (.seq (.reg false [
      ⟨some 23, .mov (.t 1), none⟩,
      ⟨some 24, .call 4 [.t 23], none⟩,
      ⟨some 25, .un .not (.t 24), none⟩,
      ⟨some 22, .mov (.t 25), none⟩]) (.cond (.t 22) (.reg false [
      ⟨some 10, .mov (.c (.int .i64 2)), none⟩]) (.seq (.reg false [
      ⟨some 27, .fad 3 3, none⟩,
      ⟨some 28, .ldf 3 3 1 false, none⟩,
      ⟨some 29, .bin .eql (.t 28) (.c (.int .i64 10000)), none⟩,
      ⟨some 26, .mov (.t 29), none⟩]) (.cond (.t 26) (.reg false [
      ⟨some 10, .mov (.c (.int .i64 3)), none⟩]) (.skip)))))))) (.seq (.seq (.reg false [
      ⟨some 30, .mov (.t 10), none⟩,
      ⟨some 31, .bin .neq (.t 30) (.c (.int .i64 0)), none⟩]) (.cond (.t 31) (.seq (.reg false [
      ⟨some 32, .mkst [.str [], .int .i64 0, .sl true 6 [], .int .i64 0, .sl true 2 [], .int .i64 0, .int .i64 0] [], none⟩,
      ⟨some 33, .mkst [.int .i64 0, .str [], .int .i64 0, .sl true 4 []] [], none⟩,
      ⟨some 34, .mkst [.int .i64 0, .str [], .int .i64 0, .sl true 4 []] [], none⟩,
      ⟨some 35, .mov (.t 10), none⟩,
      ⟨none, .stf 6 0 7 (.t 32), none⟩,
      ⟨none, .stf 7 0 4 (.t 33), none⟩,
      ⟨none, .stf 8 0 4 (.t 34), none⟩,
      ⟨some 9, .mov (.t 35), none⟩]) (.ret)) (.skip))) (.seq (.reg false [
      ⟨some 36, .fad 3 0, none⟩,
      ⟨some 37, .ldf 3 0 1 false, none⟩,
      ⟨some 38, .fad 3 3, none⟩,
      ⟨some 39, .ldf 3 3 1 false, none⟩,
      ⟨some 40, .call 38 [.t 37, .t 39], none⟩,
      ⟨some 11, .alloc [.int .i64 0, .str [], .int .i64 0, .sl true 4 []], none⟩,
      ⟨none, .stf 11 0 4 (.t 40), none⟩]) (.seq (.reg true [
      ⟨some 42, .mov (.t 1), none⟩,
      ⟨some 43, .call 5 [.t 42, .c (.int .i64 1)], none⟩,
      ⟨some 44, .ldf 11 0 4 true, none⟩,
      ⟨some 45, .fad 3 3, none⟩,
      ⟨some 46, .ldf 3 3 1 false, none⟩,
      ⟨some 47, .call 39 [.t 46], none⟩,
      ⟨some 48, .mov (.t 2), none⟩,
      ⟨some 49, .fad 3 5, none⟩,
      ⟨some 50, .ldf 3 5 1 false, none⟩,
      ⟨some 51, .bin .add (.t 48) (.t 50), none⟩,
      ⟨some 52, .call 39 [.t 51], none⟩,
      ⟨some 53, .mksl 4 [.t 43, .t 44, .t 47, .t 52], none⟩,
      ⟨some 54, .call 40 [.t 53], none⟩,
      ⟨some 41, .mov (.t 54), none⟩,
      ⟨some 55, .ext (.t 41) 0, none⟩,
      ⟨some 56, .ext (.t 41) 1, none⟩,
      ⟨some 12, .alloc [.int .i64 0, .str [], .int .i64 0, .sl true 4 []], none⟩,
      ⟨none, .stf 12 0 4 (.t 55), none⟩,
      ⟨some 13, .mov (.t 56), none⟩]) (.seq (.reg true [
      ⟨some 57, .ldf 12 0 4 true, none⟩,
      ⟨some 58, .fad 3 2, none⟩,
      ⟨some 59, .ldf 3 2 1 false, none⟩,
      ⟨some 60, .fad 3 2, none⟩,
      ⟨some 61, .ldf 3 2 1 false, none⟩,
      ⟨some 62, .lenl (.t 61), none⟩,
      ⟨some 63, .bin .sub (.t 62) (.c (.int .i64 1)), none⟩,
      ⟨some 64, .idxa 6 (.t 59) (.t 63), none⟩,
      ⟨some 65, .fadr 64 2, none⟩,
      ⟨some 66, .ld 65 4 true, none⟩,
      ⟨some 67, .mksl 4 [.t 57, .t 66], none⟩,
      ⟨some 68, .mkst [.int .i64 0, .str [], .int .i64 0, .sl true 4 []] [(0, 1, .c (.int .i64 3)), (1, 1, .c (.str [101, 110, 99])), (3, 1, .t 67)], none⟩,
      ⟨some 14, .alloc [.int .i64 0, .str [], .int .i64 0, .sl true 4 []], none⟩,
      ⟨none, .stf 14 0 4 (.t 68), none⟩]) (.seq (.reg false [
      ⟨some 69, .ldf 3 0 7 true, none⟩,
      ⟨some 70, .mov (.t 2), none⟩,
      ⟨some 71, .call 50 [.t 69, .t 70], none⟩,
      ⟨some 15, .alloc [.str [], .int .i64 0, .sl true 6 [], .int .i64 0, .sl true 2 [], .int .i64 0, .int .i64 0], none⟩,
      ⟨none, .stf 15 0 7 (.t 71), none⟩]) (.seq (.reg false [
      ⟨some 72, .fad 15 3, none⟩,
      ⟨some 73, .ldf 15 3 1 false, none⟩,
      ⟨some 74, .bin .add (.t 73) (.c (.int .i64 1)), none⟩,
      ⟨some 75, .fad 15 3, none⟩,
      ⟨none, .stf 15 3 1 (.t 74), none⟩]) (.seq (.reg true [
      ⟨some 76, .ldf 15 0 7 true, none⟩,
      ⟨some 77, .ldf 14 0 4 true, none⟩,
      ⟨some 78, .ldf 11 0 4 true, none⟩,
      ⟨none, .stf 6 0 7 (.t 76), none⟩,
      ⟨none, .stf 7 0 4 (.t 77), none⟩,
      ⟨none, .stf 8 0 4 (.t 78), none⟩,
      ⟨some 9, .mov (.c (.int .i64 0)), none⟩]) (.ret))))))))))

def ticket_Issue : AFun := { nparams := 3, ntmps := 79, res := [.cell 6 7 true, .cell 7 4 true, .cell 8 4 true, .tmp 9], keep := false, body := ticket_Issue_b }
theorem ticket_Issue_body : ticket_Issue.body = ticket_Issue_b := rfl
theorem ticket_Issue_res : ticket_Issue.res = [.cell 6 7 true, .cell 7 4 true, .cell 8 4 true, .tmp 9] := rfl
theorem ticket_Issue_keep : ticket_Issue.keep = false := rfl

/-- sealring/ticket.call : 26 -/
def ticket_call_b : AC :=
  .seq (.reg false [
      ⟨some 2, .box (.t 0), none⟩,
      ⟨some 4, .mov (.c (.int .i64 0)), none⟩]) (.seq (.seq (.reg false [
      ⟨some 6, .ldf 2 0 7 true, none⟩,
      ⟨some 7, .call 27 [.t 6], none⟩,
      ⟨some 5, .mov (.t 7), none⟩]) (.seq (.reg false [
      ⟨some 8, .mov (.t 5), none⟩,
      ⟨some 9, .bin .neq (.t 8) (.c (.int .i64 0)), none⟩]) (.cond (.t 9) (.seq (.reg false [
      ⟨some 10, .mov (.t 5), none⟩,
      ⟨some 4, .mov (.t 10), none⟩]) (.ret)) (.skip)))) (.seq (.seq (.reg false [
      ⟨some 11, .ldf 2 0 7 true, none⟩,
      ⟨some 12, .mov (.t 1), none⟩,
      ⟨some 13, .call 37 [.t 11, .t 12], none⟩]) (.cond (.t 13) (.seq (.reg false [
      ⟨some 4, .mov (.c (.int .i64 7)), none⟩]) (.ret)) (.skip))) (.seq (.reg false [
      ⟨some 4, .mov (.c (.int .i64 0)), none⟩]) (.ret))))

def ticket_call : AFun := { nparams := 2, ntmps := 14, res := [.tmp 4], keep := false, body := ticket_call_b }
theorem ticket_call_body : ticket_call.body = ticket_call_b := rfl
theorem ticket_call_res : ticket_call.res = [.tmp 4] := rfl
theorem ticket_call_keep : ticket_call.keep = false := rfl

/-- sealring/ticket.Valid : 27 -/
def ticket_Valid_b : AC :=
  .seq (.reg false [
      ⟨some 1, .box (.t 0), none⟩,
      ⟨some 2, .mov (.c (.int .i64 0)), none⟩]) (.seq (.seq (.reg false [
      ⟨some 3, .fad 1 0, none⟩,
      ⟨some 4, .ldf 1 0 1 false, none⟩,
      ⟨some 5, .call 3 [.t 4], none⟩,
      ⟨some 6, .un .not (.t 5), none⟩,
      ⟨some 7, .mov (.t 6), none⟩,
      ⟨some 8, .fad 1 5, some (7, false)⟩,
      ⟨some 9, .ldf 1 5 1 false, some (7, false)⟩,
      ⟨some 10, .call 16 [.t 9, .c (.int .i64 1), .c (.int .i64 1000)], some (7, false)⟩,
      ⟨some 11, .un .not (.t 10), some (7, false)⟩,
      ⟨some 12, .pick (.t 7) (.c (.bool true)) (.t 11), none⟩,
      ⟨some 13, .mov (.t 12), none⟩,
      ⟨some 14, .fad 1 1, some (13, false)⟩,
      ⟨some 15, .ldf 1 1 1 false, some (13, false)⟩,
      ⟨some 16, .call 16 [.t 15, .c (.int .i64 0), .c (.int .i64 10000)], some (13, false)⟩,
      ⟨some 17, .un .not (.t 16), some (13, false)⟩,
      ⟨some 18, .pick (.t 13) (.c (.bool true)) (.t 17), none⟩,
      ⟨some 19, .mov (.t 18), none⟩,
      ⟨some 20, .fad 1 3, some (19, false)⟩,
      ⟨some 21, .ldf 1 3 1 false, some (19, false)⟩,
      ⟨some 22, .call 16 [.t 21, .c (.int .i64 0), .c (.int .i64 10000)], some (19, false)⟩,
      ⟨some 23, .un .not (.t 22), some (19, false)⟩,
      ⟨some 24, .pick (.t 19) (.c (.bool true)) (.t 23), none⟩,
      ⟨some 25, .mov (.t 24), none⟩,
      ⟨some 26, .fad 1 6, some (25, false)⟩,
      ⟨some 27, .ldf 1 6 1 false, some (25, false)⟩,
      ⟨some 28, .call 16 [.t 27, .c (.int .i64 0), .c (.int .i64 100000)], some (25, false)⟩,
      ⟨some 29, .un .not (.t 28), some (25, false)⟩,
      ⟨some 30, .pick (.t 25) (.c (.bool true)) (.t 29), none⟩,
      ⟨some 31, .mov (.t 30), none⟩,
      ⟨some 32, .ldf 1 0 7 true, some (31, false)⟩,
      ⟨some 33, .call 28 [.t 32], some (31, false)⟩,
      ⟨some 34, .un .not (.t 33), some (31, false)⟩,
      ⟨some 35, .pick (.t 31) (.c (.bool true)) (.t 34), none⟩,
      ⟨some 36, .mov (.t 35), none⟩,
      ⟨some 37, .ldf 1 0 7 true, some (36, false)⟩,
      ⟨some 38, .call 36 [.t 37], some (36, false)⟩,
      ⟨some 39, .un .not (.t 38), some (36, false)⟩,
      ⟨some 40, .pick (.t 36) (.c (.bool true)) (.t 39), none⟩]) (.cond (.t 40) (.seq (.reg false [
      ⟨some 2, .mov (.c (.int .i64 1)), none⟩]) (.ret)) (.skip))) (.seq (.reg false [
      ⟨some 2, .mov (.c (.int .i64 0)), none⟩]) (.ret)))

def ticket_Valid : AFun := { nparams := 1, ntmps := 41, res := [.tmp 2], keep := false, body := ticket_Valid_b }
theorem ticket_Valid_body : ticket_Valid.body = ticket_Valid_b := rfl
theorem ticket_Valid_res : ticket_Valid.res = [.tmp 2] := rfl
theorem ticket_Valid_keep : ticket_Valid.keep = false := rfl

def ticket_keys_l0 : AC :=
  .seq (.reg false [
      ⟨some 15, .bin .lss (.t 14) (.t 13), none⟩]) (.seq (.cond (.t 15) (.skip) (.exit 0)) (.seq (.block 1 (.seq (.reg false [
      ⟨some 16, .mov (.t 14), none⟩,
      ⟨some 17, .idxa 6 (.t 12) (.t 14), none⟩,
      ⟨some 18, .ld 17 6 true, none⟩,
      ⟨some 4, .alloc [.int .i64 0, .int .i64 0, .int .i64 0, .str [], .int .i64 0, .sl true 4 []], none⟩,
      ⟨some 3, .mov (.t 16), none⟩,
      ⟨none, .stf 4 0 6 (.t 18), none⟩]) (.seq (.reg false [
      ⟨some 19, .mov (.t 3), none⟩,
      ⟨some 20, .fad 1 2, none⟩,
      ⟨some 21, .ldf 1 2 1 false, none⟩,
      ⟨some 22, .lenl (.t 21), none⟩,
      ⟨some 23, .bin .sub (.t 22) (.c (.int .i64 1)), none⟩,
      ⟨some 24, .bin .eql (.t 19) (.t 23), none⟩,
      ⟨some 5, .mov (.t 24), none⟩]) (.seq (.seq (.reg true [
      ⟨some 25, .fad 4 0, none⟩,
      ⟨some 26, .ldf 4 0 1 false, none⟩,
      ⟨some 27, .fad 1 1, none⟩,
      ⟨some 28, .ldf 1 1 1 false, none⟩,
      ⟨some 29, .fad 1 2, none⟩,
      ⟨some 30, .ldf 1 2 1 false, none⟩,
      ⟨some 31, .lenl (.t 30), none⟩,
      ⟨some 32, .bin .sub (.t 28) (.t 31), none⟩,
      ⟨some 33, .bin .add (.t 32) (.c (.int .i64 1)), none⟩,
      ⟨some 34, .mov (.t 3), none⟩,
      ⟨some 35, .bin .add (.t 33) (.t 34), none⟩,
      ⟨some 36, .bin .neq (.t 26) (.t 35), none⟩,
      ⟨some 37, .mov (.t 36), none⟩,
      ⟨some 38, .fad 4 0, some (37, false)⟩,
      ⟨some 39, .ldf 4 0 1 false, some (37, false)⟩,
      ⟨some 40, .bin .lss (.t 39) (.c (.int .i64 0)), some (37, false)⟩,
      ⟨some 41, .pick (.t 37) (.c (.bool true)) (.t 40), none⟩,
      ⟨some 42, .mov (.t 41), none⟩,
      ⟨some 43, .fad 4 2, some (42, false)⟩,
      ⟨some 44, .ldf 4 2 4 true, some (42, false)⟩,
      ⟨some 45, .fad 1 0, some (42, false)⟩,
      ⟨some 46, .ldf 1 0 1 false, some (42, false)⟩,
      ⟨some 47, .fad 4 0, some (42, false)⟩,
      ⟨some 48, .ldf 4 0 1 false, some (42, false)⟩,
      ⟨some 49, .call 17 [.t 46, .t 48], some (42, false)⟩,
      ⟨some 50, .call 29 [.t 44, .t 49], some (42, false)⟩,
      ⟨some 51, .un .not (.t 50), some (42, false)⟩,
      ⟨some 52, .pick (.t 42) (.c (.bool true)) (.t 51), none⟩,
      ⟨some 53, .mov (.t 52), none⟩,
      ⟨some 54, .mov (.t 5), some (53, false)⟩,
      ⟨some 55, .fad 4 1, some (53, false)⟩,
      ⟨some 56, .ldf 4 1 1 false, some (53, false)⟩,
      ⟨some 57, .bin .eql (.t 56) (.c (.int .i64 0)), some (53, false)⟩,
      ⟨some 58, .eqb true (.t 54) (.t 57), some (53, false)⟩,
      ⟨some 59, .pick (.t 53) (.c (.bool true)) (.t 58), none⟩,
      ⟨some 60, .mov (.t 59), none⟩,
      ⟨some 61, .fad 4 1, some (60, false)⟩,
      ⟨some 62, .ldf 4 1 1 false, some (60, false)⟩,
      ⟨some 63, .bin .lss (.t 62) (.c (.int .i64 0)), some (60, false)⟩,
      ⟨some 64, .pick (.t 60) (.c (.bool true)) (.t 63), none⟩]) (.cond (.t 64) (.seq (.reg false [
      ⟨some 2, .mov (.c (.bool false)), none⟩]) (.ret)) (.skip))) (.seq (.reg true [
      ⟨some 65, .mov (.t 3), none⟩,
      ⟨some 66, .bin .gtr (.t 65) (.c (.int .i64 0)), none⟩,
      ⟨some 67, .mov (.t 66), none⟩,
      ⟨some 68, .mov (.t 5), some (67, true)⟩,
      ⟨some 69, .un .not (.t 68), some (67, true)⟩,
      ⟨some 70, .pick (.t 67) (.t 69) (.c (.bool false)), none⟩,
      ⟨some 71, .mov (.t 70), none⟩,
      ⟨some 72, .fad 4 1, some (71, true)⟩,
      ⟨some 73, .ldf 4 1 1 false, some (71, true)⟩,
      ⟨some 74, .fad 1 2, some (71, true)⟩,
      ⟨some 75, .ldf 1 2 1 false, some (71, true)⟩,
      ⟨some 76, .mov (.t 3), some (71, true)⟩,
      ⟨some 77, .bin .sub (.t 76) (.c (.int .i64 1)), some (71, true)⟩,
      ⟨some 78, .idxa 6 (.t 75) (.t 77), some (71, true)⟩,
      ⟨some 79, .fadr 78 1, some (71, true)⟩,
      ⟨some 80, .ld 79 1 false, some (71, true)⟩,
      ⟨some 81, .bin .lss (.t 73) (.t 80), some (71, true)⟩,
      ⟨some 82, .pick (.t 71) (.t 81) (.c (.bool false)), none⟩]) (.cond (.t 82) (.seq (.reg false [
      ⟨some 2, .mov (.c (.bool false)), none⟩]) (.ret)) (.skip))))))) (.reg false [
      ⟨some 83, .bin .add (.t 14) (.c (.int .i64 1)), none⟩,
      ⟨some 14, .mov (.t 83), none⟩])))

def ticket_keys_r0 : AC :=
  .seq (.reg false [
      ⟨some 2, .mov (.c (.bool true)), none⟩]) (.ret)

/-- sealring/ticket.keys : 28 -/
def ticket_keys_b : AC :=
  .seq (.reg false [
      ⟨some 1, .box (.t 0), none⟩,
      ⟨some 2, .mov (.c (.bool false)), none⟩]) (.seq (.seq (.reg false [
      ⟨some 6, .fad 1 2, none⟩,
      ⟨some 7, .ldf 1 2 1 false, none⟩,
      ⟨some 8, .lenl (.t 7), none⟩,
      ⟨some 9, .call 16 [.t 8, .c (.int .i64 1), .c (.int .i64 8)], none⟩,
      ⟨some 10, .un .not (.t 9), none⟩]) (.cond (.t 10) (.seq (.reg false [
      ⟨some 2, .mov (.c (.bool false)), none⟩]) (.ret)) (.skip))) (.seq (.seq (.reg false [
      ⟨some 11, .fad 1 2, none⟩,
      ⟨some 12, .ldf 1 2 1 false, none⟩,
      ⟨some 13, .lenl (.t 12), none⟩,
      ⟨some 14, .mov (.c (.int .i64 0)), none⟩]) (.block 0 (.loop (ticket_keys_l0)))) (ticket_keys_r0)))

def ticket_keys : AFun := { nparams := 1, ntmps := 84, res := [.tmp 2], keep := false, body := ticket_keys_b }
theorem ticket_keys_body : ticket_keys.body = ticket_keys_b := rfl
theorem ticket_keys_res : ticket_keys.res = [.tmp 2] := rfl
theorem ticket_keys_keep : ticket_keys.keep = false := rfl

/-- sealring/ticket.same : 29 -/
def ticket_same_b : AC :=
  .seq (.reg false [
      ⟨some 2, .box (.t 0), none⟩,
      ⟨some 3, .box (.t 1), none⟩,
      ⟨some 4, .mov (.c (.bool false)), none⟩]) (.seq (.reg false [
      ⟨some 5, .ldf 2 0 4 true, none⟩,
      ⟨some 6, .ldf 3 0 4 true, none⟩,
      ⟨some 7, .call 30 [.t 5, .t 6], none⟩,
      ⟨some 8, .bin .eql (.t 7) (.c (.int .i64 0)), none⟩,
      ⟨some 4, .mov (.t 8), none⟩]) (.ret))

def ticket_same : AFun := { nparams := 2, ntmps := 9, res := [.tmp 4], keep := false, body := ticket_same_b }
theorem ticket_same_body : ticket_same.body = ticket_same_b := rfl
theorem ticket_same_res : ticket_same.res = [.tmp 4] := rfl
theorem ticket_same_keep : ticket_same.keep = false := rfl

def term_Compare_l0 : AC :=
  .seq (.seq (.reg false [
      ⟨some 42, .mov (.t 5), none⟩,
      ⟨some 43, .bin .eql (.t 42) (.c (.int .i64 0)), none⟩,
      ⟨some 44, .mov (.t 43), none⟩,
      ⟨some 45, .mov (.t 6), some (44, true)⟩,
      ⟨some 46, .fad 2 3, some (44, true)⟩,
      ⟨some 47, .ldf 2 3 1 false, some (44, true)⟩,
      ⟨some 48, .lenl (.t 47), some (44, true)⟩,
      ⟨some 49, .bin .lss (.t 45) (.t 48), some (44, true)⟩,
      ⟨some 50, .pick (.t 44) (.t 49) (.c (.bool false)), none⟩]) (.cond (.t 50) (.skip) (.exit 0))) (.seq (.block 1 (.reg true [
      ⟨some 53, .fad 2 3, none⟩,
      ⟨some 54, .ldf 2 3 1 false, none⟩,
      ⟨some 55, .mov (.t 6), none⟩,
      ⟨some 56, .idxa 4 (.t 54) (.t 55), none⟩,
      ⟨some 57, .ld 56 4 true, none⟩,
      ⟨some 58, .fad 3 3, none⟩,
      ⟨some 59, .ldf 3 3 1 false, none⟩,
      ⟨some 60, .mov (.t 6), none⟩,
      ⟨some 61, .idxa 4 (.t 59) (.t 60), none⟩,
      ⟨some 62, .ld 61 4 true, none⟩,
      ⟨some 63, .call 30 [.t 57, .t 62], none⟩,
      ⟨some 5, .mov (.t 63), none⟩])) (.reg false [
      ⟨some 51, .mov (.t 6), none⟩,
      ⟨some 52, .bin .add (.t 51) (.c (.int .i64 1)), none⟩,
      ⟨some 6, .mov (.t 52), none⟩]))

def term_Compare_r0 : AC :=
  .seq (.reg false [
      ⟨some 64, .mov (.t 5), none⟩,
      ⟨some 4, .mov (.t 64), none⟩]) (.ret)

/-- sealring/term.Compare : 30 -/
def term_Compare_b : AC :=
  .seq (.reg false [
      ⟨some 2, .box (.t 0), none⟩,
      ⟨some 3, .box (.t 1), none⟩,
      ⟨some 4, .mov (.c (.int .i64 0)), none⟩]) (.seq (.reg true [
      ⟨some 7, .ldf 2 0 4 true, none⟩,
      ⟨some 8, .call 31 [.t 7], none⟩,
      ⟨some 9, .ldf 3 0 4 true, none⟩,
      ⟨some 10, .call 31 [.t 9], none⟩,
      ⟨some 11, .call 32 [.t 8, .t 10], none⟩,
      ⟨some 5, .mov (.t 11), none⟩]) (.seq (.seq (.reg false [
      ⟨some 12, .mov (.t 5), none⟩,
      ⟨some 13, .bin .eql (.t 12) (.c (.int .i64 0)), none⟩]) (.cond (.t 13) (.reg false [
      ⟨some 14, .fad 2 0, none⟩,
      ⟨some 15, .ldf 2 0 1 false, none⟩,
      ⟨some 16, .fad 3 0, none⟩,
      ⟨some 17, .ldf 3 0 1 false, none⟩,
      ⟨some 18, .call 32 [.t 15, .t 17], none⟩,
      ⟨some 5, .mov (.t 18), none⟩]) (.skip))) (.seq (.seq (.reg false [
      ⟨some 19, .mov (.t 5), none⟩,
      ⟨some 20, .bin .eql (.t 19) (.c (.int .i64 0)), none⟩]) (.cond (.t 20) (.reg false [
      ⟨some 21, .fad 2 1, none⟩,
      ⟨some 22, .ldf 2 1 1 false, none⟩,
      ⟨some 23, .fad 3 1, none⟩,
      ⟨some 24, .ldf 3 1 1 false, none⟩,
      ⟨some 25, .call 33 [.t 22, .t 24], none⟩,
      ⟨some 5, .mov (.t 25), none⟩]) (.skip))) (.seq (.seq (.reg false [
      ⟨some 26, .mov (.t 5), none⟩,
      ⟨some 27, .bin .eql (.t 26) (.c (.int .i64 0)), none⟩]) (.cond (.t 27) (.reg false [
      ⟨some 28, .fad 2 2, none⟩,
      ⟨some 29, .ldf 2 2 1 false, none⟩,
      ⟨some 30, .fad 3 2, none⟩,
      ⟨some 31, .ldf 3 2 1 false, none⟩,
      ⟨some 32, .call 32 [.t 29, .t 31], none⟩,
      ⟨some 5, .mov (.t 32), none⟩]) (.skip))) (.seq (.seq (.reg false [
      ⟨some 33, .mov (.t 5), none⟩,
      ⟨some 34, .bin .eql (.t 33) (.c (.int .i64 0)), none⟩]) (.cond (.t 34) (.reg false [
      ⟨some 35, .fad 2 3, none⟩,
      ⟨some 36, .ldf 2 3 1 false, none⟩,
      ⟨some 37, .lenl (.t 36), none⟩,
      ⟨some 38, .fad 3 3, none⟩,
      ⟨some 39, .ldf 3 3 1 false, none⟩,
      ⟨some 40, .lenl (.t 39), none⟩,
      ⟨some 41, .call 32 [.t 37, .t 40], none⟩,
      ⟨some 5, .mov (.t 41), none⟩]) (.skip))) (.seq (.seq (.reg false [
      ⟨some 6, .mov (.c (.int .i64 0)), none⟩]) (.block 0 (.loop (term_Compare_l0)))) (term_Compare_r0)))))))

def term_Compare : AFun := { nparams := 2, ntmps := 65, res := [.tmp 4], keep := false, body := term_Compare_b }
theorem term_Compare_body : term_Compare.body = term_Compare_b := rfl
theorem term_Compare_res : term_Compare.res = [.tmp 4] := rfl
theorem term_Compare_keep : term_Compare.keep = false := rfl

def term_Size_l0 : AC :=
  .seq (.reg false [
      ⟨some 10, .bin .lss (.t 9) (.t 8), none⟩]) (.seq (.cond (.t 10) (.skip) (.exit 0)) (.seq (.block 1 (.seq (.reg false [
      ⟨some 11, .idxa 4 (.t 7) (.t 9), none⟩,
      ⟨some 12, .ld 11 4 true, none⟩,
      ⟨some 5, .alloc [.int .i64 0, .str [], .int .i64 0, .sl true 4 []], none⟩,
      ⟨none, .stf 5 0 4 (.t 12), none⟩]) (.reg false [
      ⟨some 13, .mov (.t 3), none⟩,
      ⟨some 14, .ldf 5 0 4 true, none⟩,
      ⟨some 15, .call 31 [.t 14], none⟩,
      ⟨some 16, .bin .add (.t 13) (.t 15), none⟩,
      ⟨some 3, .mov (.t 16), none⟩]))) (.reg false [
      ⟨some 17, .bin .add (.t 9) (.c (.int .i64 1)), none⟩,
      ⟨some 9, .mov (.t 17), none⟩])))

def term_Size_r0 : AC :=
  .seq (.reg false [
      ⟨some 18, .mov (.t 3), none⟩,
      ⟨some 2, .mov (.t 18), none⟩]) (.ret)

/-- sealring/term.Size : 31 -/
def term_Size_b : AC :=
  .seq (.reg false [
      ⟨some 1, .box (.t 0), none⟩,
      ⟨some 2, .mov (.c (.int .i64 0)), none⟩]) (.seq (.reg false [
      ⟨some 3, .mov (.c (.int .i64 1)), none⟩]) (.seq (.seq (.reg false [
      ⟨some 6, .fad 1 3, none⟩,
      ⟨some 7, .ldf 1 3 1 false, none⟩,
      ⟨some 8, .lenl (.t 7), none⟩,
      ⟨some 9, .mov (.c (.int .i64 0)), none⟩]) (.block 0 (.loop (term_Size_l0)))) (term_Size_r0)))

def term_Size : AFun := { nparams := 1, ntmps := 19, res := [.tmp 2], keep := false, body := term_Size_b }
theorem term_Size_body : term_Size.body = term_Size_b := rfl
theorem term_Size_res : term_Size.res = [.tmp 2] := rfl
theorem term_Size_keep : term_Size.keep = false := rfl

/-- sealring/term.sign : 32 -/
def term_sign_b : AC :=
  .seq (.reg false [
      ⟨some 4, .mov (.c (.int .i64 0)), none⟩]) (.seq (.block 0 (.seq (.reg false [
      ⟨some 6, .mov (.t 0), none⟩,
      ⟨some 7, .mov (.t 1), none⟩,
      ⟨some 8, .bin .lss (.t 6) (.t 7), none⟩,
      ⟨some 5, .mov (.t 8), none⟩]) (.cond (.t 5) (.seq (.reg false [
      ⟨some 4, .mov (.c (.int .i64 (-1))), none⟩]) (.ret)) (.seq (.reg false [
      ⟨some 10, .mov (.t 0), none⟩,
      ⟨some 11, .mov (.t 1), none⟩,
      ⟨some 12, .bin .gtr (.t 10) (.t 11), none⟩,
      ⟨some 9, .mov (.t 12), none⟩]) (.cond (.t 9) (.seq (.reg false [
      ⟨some 4, .mov (.c (.int .i64 1)), none⟩]) (.ret)) (.skip)))))) (.seq (.reg false [
      ⟨some 4, .mov (.c (.int .i64 0)), none⟩]) (.ret)))

def term_sign : AFun := { nparams := 2, ntmps := 13, res := [.tmp 4], keep := false, body := term_sign_b }
theorem term_sign_body : term_sign.body = term_sign_b := rfl
theorem term_sign_res : term_sign.res = [.tmp 4] := rfl
theorem term_sign_keep : term_sign.keep = false := rfl

def ticket_used_l0 : AC :=
  .seq (.reg false [
      ⟨some 9, .bin .lss (.t 8) (.t 7), none⟩]) (.seq (.cond (.t 9) (.skip) (.exit 0)) (.seq (.block 1 (.seq (.reg false [
      ⟨some 10, .mov (.t 8), none⟩,
      ⟨some 11, .idxa 2 (.t 6) (.t 8), none⟩,
      ⟨some 12, .ld 11 2 true, none⟩,
      ⟨some 4, .alloc [.int .i64 0, .int .i64 0], none⟩,
      ⟨some 3, .mov (.t 10), none⟩,
      ⟨none, .stf 4 0 2 (.t 12), none⟩]) (.seq (.reg true [
      ⟨some 13, .fad 4 0, none⟩,
      ⟨some 14, .ldf 4 0 1 false, none⟩,
      ⟨some 15, .bin .lss (.t 14) (.c (.int .i64 0)), none⟩,
      ⟨some 16, .mov (.t 15), none⟩,
      ⟨some 17, .fad 4 0, some (16, false)⟩,
      ⟨some 18, .ldf 4 0 1 false, some (16, false)⟩,
      ⟨some 19, .fad 1 3, some (16, false)⟩,
      ⟨some 20, .ldf 1 3 1 false, some (16, false)⟩,
      ⟨some 21, .bin .geq (.t 18) (.t 20), some (16, false)⟩,
      ⟨some 22, .pick (.t 16) (.c (.bool true)) (.t 21), none⟩,
      ⟨some 23, .mov (.t 22), none⟩,
      ⟨some 24, .fad 4 1, some (23, false)⟩,
      ⟨some 25, .ldf 4 1 1 false, some (23, false)⟩,
      ⟨some 26, .bin .lss (.t 25) (.c (.int .i64 0)), some (23, false)⟩,
      ⟨some 27, .pick (.t 23) (.c (.bool true)) (.t 26), none⟩,
      ⟨some 28, .mov (.t 27), none⟩,
      ⟨some 29, .mov (.t 3), some (28, false)⟩,
      ⟨some 30, .bin .gtr (.t 29) (.c (.int .i64 0)), some (28, false)⟩,
      ⟨some 31, .mov (.t 30), some (28, false)⟩,
      ⟨some 32, .fad 1 4, some (31, true)⟩,
      ⟨some 33, .ldf 1 4 1 false, some (31, true)⟩,
      ⟨some 34, .mov (.t 3), some (31, true)⟩,
      ⟨some 35, .bin .sub (.t 34) (.c (.int .i64 1)), some (31, true)⟩,
      ⟨some 36, .idxa 2 (.t 33) (.t 35), some (31, true)⟩,
      ⟨some 37, .fadr 36 0, some (31, true)⟩,
      ⟨some 38, .ld 37 1 false, some (31, true)⟩,
      ⟨some 39, .fad 4 0, some (31, true)⟩,
      ⟨some 40, .ldf 4 0 1 false, some (31, true)⟩,
      ⟨some 41, .bin .geq (.t 38) (.t 40), some (31, true)⟩,
      ⟨some 42, .pick (.t 31) (.t 41) (.c (.bool false)), some (28, false)⟩,
      ⟨some 43, .pick (.t 28) (.c (.bool true)) (.t 42), none⟩]) (.cond (.t 43) (.seq (.reg false [
      ⟨some 2, .mov (.c (.bool false)), none⟩]) (.ret)) (.skip))))) (.reg false [
      ⟨some 44, .bin .add (.t 8) (.c (.int .i64 1)), none⟩,
      ⟨some 8, .mov (.t 44), none⟩])))

def ticket_used_r0 : AC :=
  .seq (.reg false [
      ⟨some 45, .fad 1 4, none⟩,
      ⟨some 46, .ldf 1 4 1 false, none⟩,
      ⟨some 47, .lenl (.t 46), none⟩,
      ⟨some 48, .bin .leq (.t 47) (.c (.int .i64 200)), none⟩,
      ⟨some 2, .mov (.t 48), none⟩]) (.ret)

/-- sealring/ticket.used : 36 -/
def ticket_used_b : AC :=
  .seq (.reg false [
      ⟨some 1, .box (.t 0), none⟩,
      ⟨some 2, .mov (.c (.bool false)), none⟩]) (.seq (.seq (.reg false [
      ⟨some 5, .fad 1 4, none⟩,
      ⟨some 6, .ldf 1 4 1 false, none⟩,
      ⟨some 7, .lenl (.t 6), none⟩,
      ⟨some 8, .mov (.c (.int .i64 0)), none⟩]) (.block 0 (.loop (ticket_used_l0)))) (ticket_used_r0))

def ticket_used : AFun := { nparams := 1, ntmps := 49, res := [.tmp 2], keep := false, body := ticket_used_b }
theorem ticket_used_body : ticket_used.body = ticket_used_b := rfl
theorem ticket_used_res : ticket_used.res = [.tmp 2] := rfl
theorem ticket_used_keep : ticket_used.keep = false := rfl

/-- sealring/ticket.early : 37 -/
def ticket_early_b : AC :=
  .seq (.reg false [
      ⟨some 2, .box (.t 0), none⟩,
      ⟨some 4, .mov (.c (.bool false)), none⟩]) (.seq (.reg false [
      ⟨some 5, .mov (.t 1), none⟩,
      ⟨some 6, .fad 2 6, none⟩,
      ⟨some 7, .ldf 2 6 1 false, none⟩,
      ⟨some 8, .call 16 [.t 5, .t 7, .c (.int .i64 100000)], none⟩,
      ⟨some 9, .un .not (.t 8), none⟩,
      ⟨some 4, .mov (.t 9), none⟩]) (.ret))

def ticket_early : AFun := { nparams := 2, ntmps := 10, res := [.tmp 4], keep := false, body := ticket_early_b }
theorem ticket_early_body : ticket_early.body = ticket_early_b := rfl
theorem ticket_early_res : ticket_early.res = [.tmp 4] := rfl
theorem ticket_early_keep : ticket_early.keep = false := rfl

/-- sealring/ticket.ticketKey : 38 -/
def ticket_ticketKey_b : AC :=
  .seq (.reg false [
      ⟨some 4, .alloc [.int .i64 0, .str [], .int .i64 0, .sl true 4 []], none⟩]) (.seq (.reg false [
      ⟨some 5, .mov (.t 0), none⟩,
      ⟨some 6, .bin .add (.t 5) (.c (.str [95])), none⟩,
      ⟨some 7, .mov (.t 1), none⟩,
      ⟨some 8, .call 18 [.t 7], none⟩,
      ⟨some 9, .bin .add (.t 6) (.t 8), none⟩,
      ⟨some 10, .call 5 [.t 9, .c (.int .i64 3)], none⟩,
      ⟨none, .stf 4 0 4 (.t 10), none⟩]) (.ret))

def ticket_ticketKey : AFun := { nparams := 2, ntmps := 11, res := [.cell 4 4 true], keep := false, body := ticket_ticketKey_b }
theorem ticket_ticketKey_body : ticket_ticketKey.body = ticket_ticketKey_b := rfl
theorem ticket_ticketKey_res : ticket_ticketKey.res = [.cell 4 4 true] := rfl
theorem ticket_ticketKey_keep : ticket_ticketKey.keep = false := rfl

/-- sealring/ticket.number : 39 -/
def ticket_number_b : AC :=
  .seq (.reg false [
      ⟨some 2, .alloc [.int .i64 0, .str [], .int .i64 0, .sl true 4 []], none⟩]) (.seq (.reg false [
      ⟨some 3, .mov (.t 0), none⟩,
      ⟨some 4, .call 18 [.t 3], none⟩,
      ⟨some 5, .bin .add (.c (.str [110, 35])) (.t 4), none⟩,
      ⟨some 6, .call 5 [.t 5, .c (.int .i64 4)], none⟩,
      ⟨none, .stf 2 0 4 (.t 6), none⟩]) (.ret))

def ticket_number : AFun := { nparams := 1, ntmps := 7, res := [.cell 2 4 true], keep := false, body := ticket_number_b }
theorem ticket_number_body : ticket_number.body = ticket_number_b := rfl
theorem ticket_number_res : ticket_number.res = [.cell 2 4 true] := rfl
theorem ticket_number_keep : ticket_number.keep = false := rfl

def theory_Tuple_l0 : AC :=
  .seq (.reg false [
      ⟨some 20, .bin .lss (.t 19) (.t 18), none⟩]) (.seq (.cond (.t 20) (.skip) (.exit 0)) (.seq (.block 1 (.seq (.reg false [
      ⟨some 21, .mov (.t 19), none⟩,
      ⟨some 5, .mov (.t 21), none⟩]) (.seq (.reg false [
      ⟨some 22, .mov (.t 0), none⟩,
      ⟨some 23, .mov (.t 5), none⟩,
      ⟨some 24, .idxa 4 (.t 22) (.t 23), none⟩,
      ⟨some 25, .ld 24 4 true, none⟩,
      ⟨some 26, .call 41 [.t 25], none⟩,
      ⟨some 6, .mov (.t 26), none⟩]) (.seq (.reg false [
      ⟨some 27, .mov (.t 6), none⟩,
      ⟨some 28, .bin .neq (.t 27) (.c (.int .i64 0)), none⟩]) (.cond (.t 28) (.seq (.reg false [
      ⟨some 29, .mkst [.int .i64 0, .str [], .int .i64 0, .sl true 4 []] [], none⟩,
      ⟨some 30, .mov (.t 6), none⟩,
      ⟨none, .stf 2 0 4 (.t 29), none⟩,
      ⟨some 3, .mov (.t 30), none⟩]) (.ret)) (.skip)))))) (.reg false [
      ⟨some 31, .bin .add (.t 19) (.c (.int .i64 1)), none⟩,
      ⟨some 19, .mov (.t 31), none⟩])))

def theory_Tuple_r0 : AC :=
  .seq (.reg false [
      ⟨some 32, .mkst [.int .i64 0, .str [], .int .i64 0, .sl true 4 []] [], none⟩,
      ⟨none, .stf 2 0 4 (.t 32), none⟩,
      ⟨some 3, .mov (.c (.int .i64 3)), none⟩]) (.ret)

def theory_Tuple_l1 : AC :=
  .seq (.seq (.reg false [
      ⟨some 41, .mov (.t 8), none⟩,
      ⟨some 42, .bin .geq (.t 41) (.c (.int .i64 0)), none⟩]) (.cond (.t 42) (.skip) (.exit 2))) (.seq (.block 3 (.reg true [
      ⟨some 45, .mov (.t 0), none⟩,
      ⟨some 46, .mov (.t 8), none⟩,
      ⟨some 47, .idxa 4 (.t 45) (.t 46), none⟩,
      ⟨some 48, .ld 47 4 true, none⟩,
      ⟨some 49, .call 46 [.t 48], none⟩,
      ⟨some 50, .ldf 7 0 4 true, none⟩,
      ⟨some 51, .mksl 4 [.t 49, .t 50], none⟩,
      ⟨some 52, .call 49 [.c (.str [112, 97, 105, 114]), .t 51], none⟩,
      ⟨none, .stf 7 0 4 (.t 52), none⟩])) (.reg false [
      ⟨some 43, .mov (.t 8), none⟩,
      ⟨some 44, .bin .sub (.t 43) (.c (.int .i64 1)), none⟩,
      ⟨some 8, .mov (.t 44), none⟩]))

def theory_Tuple_r1 : AC :=
  .seq (.seq (.reg false [
      ⟨some 53, .ldf 7 0 4 true, none⟩,
      ⟨some 54, .call 41 [.t 53], none⟩,
      ⟨some 9, .mov (.t 54), none⟩]) (.seq (.reg false [
      ⟨some 55, .mov (.t 9), none⟩,
      ⟨some 56, .bin .neq (.t 55) (.c (.int .i64 0)), none⟩]) (.cond (.t 56) (.seq (.reg false [
      ⟨some 57, .mkst [.int .i64 0, .str [], .int .i64 0, .sl true 4 []] [], none⟩,
      ⟨some 58, .mov (.t 9), none⟩,
      ⟨none, .stf 2 0 4 (.t 57), none⟩,
      ⟨some 3, .mov (.t 58), none⟩]) (.ret)) (.skip)))) (.seq (.reg false [
      ⟨some 59, .ldf 7 0 4 true, none⟩,
      ⟨none, .stf 2 0 4 (.t 59), none⟩,
      ⟨some 3, .mov (.c (.int .i64 0)), none⟩]) (.ret))

def theory_Tuple_r2 : AC :=
  .seq (.reg false [
      ⟨some 33, .mov (.t 0), none⟩,
      ⟨some 34, .mov (.t 4), none⟩,
      ⟨some 35, .bin .sub (.t 34) (.c (.int .i64 1)), none⟩,
      ⟨some 36, .idxa 4 (.t 33) (.t 35), none⟩,
      ⟨some 37, .ld 36 4 true, none⟩,
      ⟨some 38, .call 46 [.t 37], none⟩,
      ⟨some 7, .alloc [.int .i64 0, .str [], .int .i64 0, .sl true 4 []], none⟩,
      ⟨none, .stf 7 0 4 (.t 38), none⟩]) (.seq (.seq (.reg false [
      ⟨some 39, .mov (.t 4), none⟩,
      ⟨some 40, .bin .sub (.t 39) (.c (.int .i64 2)), none⟩,
      ⟨some 8, .mov (.t 40), none⟩]) (.block 2 (.loop (theory_Tuple_l1)))) (theory_Tuple_r1))

/-- sealring/theory.Tuple : 40 -/
def theory_Tuple_b : AC :=
  .seq (.reg false [
      ⟨some 2, .alloc [.int .i64 0, .str [], .int .i64 0, .sl true 4 []], none⟩,
      ⟨some 3, .mov (.c (.int .i64 0)), none⟩]) (.seq (.reg false [
      ⟨some 10, .mov (.t 0), none⟩,
      ⟨some 11, .lenl (.t 10), none⟩,
      ⟨some 4, .mov (.t 11), none⟩]) (.seq (.seq (.reg false [
      ⟨some 12, .mov (.t 4), none⟩,
      ⟨some 13, .bin .eql (.t 12) (.c (.int .i64 0)), none⟩]) (.cond (.t 13) (.seq (.reg false [
      ⟨some 14, .mkst [.int .i64 0, .str [], .int .i64 0, .sl true 4 []] [], none⟩,
      ⟨none, .stf 2 0 4 (.t 14), none⟩,
      ⟨some 3, .mov (.c (.int .i64 8)), none⟩]) (.ret)) (.skip))) (.seq (.seq (.reg false [
      ⟨some 15, .mov (.t 4), none⟩,
      ⟨some 16, .bin .gtr (.t 15) (.c (.int .i64 400)), none⟩]) (.cond (.t 16) (.seq (.seq (.reg false [
      ⟨some 17, .mov (.t 0), none⟩,
      ⟨some 18, .lenl (.t 17), none⟩,
      ⟨some 19, .mov (.c (.int .i64 0)), none⟩]) (.block 0 (.loop (theory_Tuple_l0)))) (theory_Tuple_r0)) (.skip))) (theory_Tuple_r2))))

def theory_Tuple : AFun := { nparams := 1, ntmps := 60, res := [.cell 2 4 true, .tmp 3], keep := false, body := theory_Tuple_b }
theorem theory_Tuple_body : theory_Tuple.body = theory_Tuple_b := rfl
theorem theory_Tuple_res : theory_Tuple.res = [.cell 2 4 true, .tmp 3] := rfl
theorem theory_Tuple_keep : theory_Tuple.keep = false := rfl

/-- sealring/theory.Valid : 41 -/
def theory_Valid_b : AC :=
  .seq (.reg false [
      ⟨some 1, .box (.t 0), none⟩,
      ⟨some 2, .mov (.c (.int .i64 0)), none⟩]) (.seq (.seq (.reg false [
      ⟨some 4, .ldf 1 0 4 true, none⟩,
      ⟨some 5, .call 6 [.t 4], none⟩,
      ⟨some 3, .mov (.t 5), none⟩]) (.seq (.reg false [
      ⟨some 6, .mov (.t 3), none⟩,
      ⟨some 7, .bin .neq (.t 6) (.c (.int .i64 0)), none⟩]) (.cond (.t 7) (.seq (.reg false [
      ⟨some 8, .mov (.t 3), none⟩,
      ⟨some 2, .mov (.t 8), none⟩]) (.ret)) (.skip)))) (.seq (.reg false [
      ⟨some 9, .ldf 1 0 4 true, none⟩,
      ⟨some 10, .call 42 [.t 9], none⟩,
      ⟨some 2, .mov (.t 10), none⟩]) (.ret)))

def theory_Valid : AFun := { nparams := 1, ntmps := 11, res := [.tmp 2], keep := false, body := theory_Valid_b }
theorem theory_Valid_body : theory_Valid.body = theory_Valid_b := rfl
theorem theory_Valid_res : theory_Valid.res = [.tmp 2] := rfl
theorem theory_Valid_keep : theory_Valid.keep = false := rfl

def theory_check_l0 : AC :=
  .seq (.reg false [
      ⟨some 41, .bin .lss (.t 40) (.t 39), none⟩]) (.seq (.cond (.t 41) (.skip) (.exit 1)) (.seq (.block 2 (.seq (.reg false [
      ⟨some 42, .idxa 4 (.t 38) (.t 40), none⟩,
      ⟨some 43, .ld 42 4 true, none⟩,
      ⟨some 6, .alloc [.int .i64 0, .str [], .int .i64 0, .sl true 4 []], none⟩,
      ⟨none, .stf 6 0 4 (.t 43), none⟩]) (.seq (.reg false [
      ⟨some 44, .fad 6 0, none⟩,
      ⟨some 45, .ldf 6 0 1 false, none⟩,
      ⟨some 46, .bin .eql (.t 45) (.c (.int .i64 3)), none⟩,
      ⟨some 47, .mov (.t 46), none⟩,
      ⟨some 48, .fad 6 2, some (47, false)⟩,
      ⟨some 49, .ldf 6 2 1 false, some (47, false)⟩,
      ⟨some 50, .bin .neq (.t 49) (.c (.int .i64 1)), some (47, false)⟩,
      ⟨some 51, .pick (.t 47) (.c (.bool true)) (.t 50), none⟩]) (.cond (.t 51) (.seq (.reg false [
      ⟨some 2, .mov (.c (.int .i64 10)), none⟩]) (.ret)) (.skip))))) (.reg false [
      ⟨some 52, .bin .add (.t 40) (.c (.int .i64 1)), none⟩,
      ⟨some 40, .mov (.t 52), none⟩])))

def theory_check_l1 : AC :=
  .seq (.reg false [
      ⟨some 65, .bin .lss (.t 64) (.t 63), none⟩]) (.seq (.cond (.t 65) (.skip) (.exit 3)) (.seq (.block 4 (.seq (.reg false [
      ⟨some 66, .idxa 4 (.t 62) (.t 64), none⟩,
      ⟨some 67, .ld 66 4 true, none⟩,
      ⟨some 8, .alloc [.int .i64 0, .str [], .int .i64 0, .sl true 4 []], none⟩,
      ⟨none, .stf 8 0 4 (.t 67), none⟩]) (.seq (.reg false [
      ⟨some 68, .ldf 8 0 4 true, none⟩,
      ⟨some 69, .call 42 [.t 68], none⟩,
      ⟨some 9, .mov (.t 69), none⟩]) (.seq (.reg false [
      ⟨some 70, .mov (.t 9), none⟩,
      ⟨some 71, .bin .neq (.t 70) (.c (.int .i64 0)), none⟩]) (.cond (.t 71) (.seq (.reg false [
      ⟨some 72, .mov (.t 9), none⟩,
      ⟨some 2, .mov (.t 72), none⟩]) (.ret)) (.skip)))))) (.reg false [
      ⟨some 73, .bin .add (.t 64) (.c (.int .i64 1)), none⟩,
      ⟨some 64, .mov (.t 73), none⟩])))

def theory_check_r0 : AC :=
  .seq (.reg false [
      ⟨some 2, .mov (.c (.int .i64 0)), none⟩]) (.ret)

def theory_check_r1 : AC :=
  .seq (.seq (.reg false [
      ⟨some 61, .fad 1 3, none⟩,
      ⟨some 62, .ldf 1 3 1 false, none⟩,
      ⟨some 63, .lenl (.t 62), none⟩,
      ⟨some 64, .mov (.c (.int .i64 0)), none⟩]) (.block 3 (.loop (theory_check_l1)))) (theory_check_r0)

/-- sealring/theory.check : 42 -/
def theory_check_b : AC :=
  .seq (.reg false [
      ⟨some 1, .box (.t 0), none⟩,
      ⟨some 2, .mov (.c (.int .i64 0)), none⟩]) (.seq (.seq (.reg false [
      ⟨some 10, .fad 1 0, none⟩,
      ⟨some 11, .ldf 1 0 1 false, none⟩,
      ⟨some 12, .bin .neq (.t 11) (.c (.int .i64 3)), none⟩]) (.cond (.t 12) (.seq (.reg false [
      ⟨some 2, .mov (.c (.int .i64 0)), none⟩]) (.ret)) (.skip))) (.seq (.reg false [
      ⟨some 13, .fad 1 1, none⟩,
      ⟨some 14, .ldf 1 1 1 false, none⟩,
      ⟨some 15, .call 43 [.t 14], none⟩,
      ⟨some 3, .alloc [.str [], .int .i64 0, .int .i64 0, .int .i64 0], none⟩,
      ⟨none, .stf 3 0 4 (.t 15), none⟩]) (.seq (.seq (.reg false [
      ⟨some 16, .fad 3 3, none⟩,
      ⟨some 17, .ldf 3 3 1 false, none⟩,
      ⟨some 18, .bin .eql (.t 17) (.c (.int .i64 0)), none⟩]) (.cond (.t 18) (.seq (.reg false [
      ⟨some 2, .mov (.c (.int .i64 10)), none⟩]) (.ret)) (.skip))) (.seq (.seq (.reg false [
      ⟨some 19, .fad 1 3, none⟩,
      ⟨some 20, .ldf 1 3 1 false, none⟩,
      ⟨some 21, .lenl (.t 20), none⟩,
      ⟨some 4, .mov (.t 21), none⟩]) (.seq (.reg false [
      ⟨some 22, .mov (.t 4), none⟩,
      ⟨some 23, .fad 3 1, none⟩,
      ⟨some 24, .ldf 3 1 1 false, none⟩,
      ⟨some 25, .bin .lss (.t 22) (.t 24), none⟩,
      ⟨some 26, .mov (.t 25), none⟩,
      ⟨some 27, .mov (.t 4), some (26, false)⟩,
      ⟨some 28, .fad 3 2, some (26, false)⟩,
      ⟨some 29, .ldf 3 2 1 false, some (26, false)⟩,
      ⟨some 30, .bin .gtr (.t 27) (.t 29), some (26, false)⟩,
      ⟨some 31, .pick (.t 26) (.c (.bool true)) (.t 30), none⟩]) (.cond (.t 31) (.seq (.reg false [
      ⟨some 2, .mov (.c (.int .i64 6)), none⟩]) (.ret)) (.skip)))) (.seq (.seq (.reg false [
      ⟨some 32, .fad 1 1, none⟩,
      ⟨some 33, .ldf 1 1 1 false, none⟩]) (.block 0 (.seq (.seq (.reg false [
      ⟨some 35, .bin .eql (.t 33) (.c (.str [115, 107])), none⟩,
      ⟨some 34, .mov (.t 35), none⟩]) (.cond (.t 34) (.skip) (.reg false [
      ⟨some 36, .bin .eql (.t 33) (.c (.str [115, 104, 107])), none⟩,
      ⟨some 34, .mov (.t 36), none⟩]))) (.cond (.t 34) (.seq (.reg false [
      ⟨some 37, .fad 1 3, none⟩,
      ⟨some 38, .ldf 1 3 1 false, none⟩,
      ⟨some 39, .lenl (.t 38), none⟩,
      ⟨some 40, .mov (.c (.int .i64 0)), none⟩]) (.block 1 (.loop (theory_check_l0)))) (.seq (.reg false [
      ⟨some 54, .bin .eql (.t 33) (.c (.str [110, 101, 119])), none⟩,
      ⟨some 53, .mov (.t 54), none⟩]) (.cond (.t 53) (.seq (.reg false [
      ⟨some 55, .fad 1 3, none⟩,
      ⟨some 56, .ldf 1 3 1 false, none⟩,
      ⟨some 57, .idxa 4 (.t 56) (.c (.int .i64 0)), none⟩,
      ⟨some 58, .fadr 57 0, none⟩,
      ⟨some 59, .ld 58 1 false, none⟩,
      ⟨some 60, .bin .neq (.t 59) (.c (.int .i64 2)), none⟩]) (.cond (.t 60) (.seq (.reg false [
      ⟨some 2, .mov (.c (.int .i64 10)), none⟩]) (.ret)) (.skip))) (.skip))))))) (theory_check_r1))))))

def theory_check : AFun := { nparams := 1, ntmps := 74, res := [.tmp 2], keep := false, body := theory_check_b }
theorem theory_check_body : theory_check.body = theory_check_b := rfl
theorem theory_check_res : theory_check.res = [.tmp 2] := rfl
theorem theory_check_keep : theory_check.keep = false := rfl

def theory_symbol_l0 : AC :=
  .seq (.reg false [
      ⟨some 8, .bin .lss (.t 7) (.t 6), none⟩]) (.seq (.cond (.t 8) (.skip) (.exit 0)) (.seq (.block 1 (.seq (.reg false [
      ⟨some 9, .idxa 4 (.t 5) (.t 7), none⟩,
      ⟨some 10, .ld 9 4 true, none⟩,
      ⟨some 4, .alloc [.str [], .int .i64 0, .int .i64 0, .int .i64 0], none⟩,
      ⟨none, .stf 4 0 4 (.t 10), none⟩]) (.seq (.reg false [
      ⟨some 11, .fad 4 0, none⟩,
      ⟨some 12, .ldf 4 0 1 false, none⟩,
      ⟨some 13, .mov (.t 0), none⟩,
      ⟨some 14, .bin .eql (.t 12) (.t 13), none⟩]) (.cond (.t 14) (.seq (.reg false [
      ⟨some 15, .ldf 4 0 4 true, none⟩,
      ⟨none, .stf 2 0 4 (.t 15), none⟩]) (.ret)) (.skip))))) (.reg false [
      ⟨some 16, .bin .add (.t 7) (.c (.int .i64 1)), none⟩,
      ⟨some 7, .mov (.t 16), none⟩])))

def theory_symbol_r0 : AC :=
  .seq (.reg false [
      ⟨some 17, .mkst [.str [], .int .i64 0, .int .i64 0, .int .i64 0] [], none⟩,
      ⟨none, .stf 2 0 4 (.t 17), none⟩]) (.ret)

/-- sealring/theory.symbol : 43 -/
def theory_symbol_b : AC :=
  .seq (.reg false [
      ⟨some 2, .alloc [.str [], .int .i64 0, .int .i64 0, .int .i64 0], none⟩]) (.seq (.seq (.reg false [
      ⟨some 5, .call 44 [], none⟩,
      ⟨some 6, .lenl (.t 5), none⟩,
      ⟨some 7, .mov (.c (.int .i64 0)), none⟩]) (.block 0 (.loop (theory_symbol_l0)))) (theory_symbol_r0))

def theory_symbol : AFun := { nparams := 1, ntmps := 18, res := [.cell 2 4 true], keep := false, body := theory_symbol_b }
theorem theory_symbol_body : theory_symbol.body = theory_symbol_b := rfl
theorem theory_symbol_res : theory_symbol.res = [.cell 2 4 true] := rfl
theorem theory_symbol_keep : theory_symbol.keep = false := rfl

/-- sealring/theory.Symbols : 44 -/
def theory_Symbols_b : AC :=
  .seq (.reg false [
      ⟨some 0, .mov (.c (.sl true 4 [])), none⟩]) (.seq (.reg false [
      ⟨some 1, .galloc [.sl true 4 []], none⟩]) (.seq (.reg false [
      ⟨some 6, .mkfn 45 [.t 1], none⟩,
      ⟨some 2, .mov (.t 6), none⟩]) (.seq (.reg false [
      ⟨some 3, .mov (.c (.int .i64 1)), none⟩,
      ⟨some 4, .mov (.c (.int .i64 2)), none⟩,
      ⟨some 5, .mov (.c (.int .i64 3)), none⟩]) (.seq (.reg false [
      ⟨some 7, .mov (.t 2), none⟩,
      ⟨some 8, .mov (.t 3), none⟩,
      ⟨some 9, .callv (.t 7) [.t 8, .c (.str [112, 97, 105, 114]), .c (.int .i64 2), .c (.int .i64 2)], none⟩]) (.seq (.reg false [
      ⟨some 10, .mov (.t 2), none⟩,
      ⟨some 11, .mov (.t 3), none⟩,
      ⟨some 12, .callv (.t 10) [.t 11, .c (.str [101, 110, 99]), .c (.int .i64 2), .c (.int .i64 2)], none⟩]) (.seq (.reg false [
      ⟨some 13, .mov (.t 2), none⟩,
      ⟨some 14, .mov (.t 3), none⟩,
      ⟨some 15, .callv (.t 13) [.t 14, .c (.str [97, 101, 110, 99]), .c (.int .i64 2), .c (.int .i64 2)], none⟩]) (.seq (.reg false [
      ⟨some 16, .mov (.t 2), none⟩,
      ⟨some 17, .mov (.t 3), none⟩,
      ⟨some 18, .callv (.t 16) [.t 17, .c (.str [112, 107]), .c (.int .i64 1), .c (.int .i64 1)], none⟩]) (.seq (.reg false [
      ⟨some 19, .mov (.t 2), none⟩,
      ⟨some 20, .mov (.t 3), none⟩,
      ⟨some 21, .callv (.t 19) [.t 20, .c (.str [115, 105, 103, 110]), .c (.int .i64 2), .c (.int .i64 2)], none⟩]) (.seq (.reg false [
      ⟨some 22, .mov (.t 2), none⟩,
      ⟨some 23, .mov (.t 3), none⟩,
      ⟨some 24, .callv (.t 22) [.t 23, .c (.str [104, 97, 115, 104]), .c (.int .i64 1), .c (.int .i64 1)], none⟩]) (.seq (.reg false [
      ⟨some 25, .mov (.t 2), none⟩,
      ⟨some 26, .mov (.t 3), none⟩,
      ⟨some 27, .callv (.t 25) [.t 26, .c (.str [120, 111, 114]), .c (.int .i64 2), .c (.int .i64 8)], none⟩]) (.seq (.reg false [
      ⟨some 28, .mov (.t 2), none⟩,
      ⟨some 29, .mov (.t 3), none⟩,
      ⟨some 30, .callv (.t 28) [.t 29, .c (.str [122, 101, 114, 111]), .c (.int .i64 0), .c (.int .i64 0)], none⟩]) (.seq (.reg false [
      ⟨some 31, .mov (.t 2), none⟩,
      ⟨some 32, .mov (.t 3), none⟩,
      ⟨some 33, .callv (.t 31) [.t 32, .c (.str [101, 120, 112]), .c (.int .i64 2), .c (.int .i64 2)], none⟩]) (.seq (.reg false [
      ⟨some 34, .mov (.t 2), none⟩,
      ⟨some 35, .mov (.t 3), none⟩,
      ⟨some 36, .callv (.t 34) [.t 35, .c (.str [109, 117, 108]), .c (.int .i64 2), .c (.int .i64 8)], none⟩]) (.seq (.reg false [
      ⟨some 37, .mov (.t 2), none⟩,
      ⟨some 38, .mov (.t 3), none⟩,
      ⟨some 39, .callv (.t 37) [.t 38, .c (.str [105, 110, 118]), .c (.int .i64 1), .c (.int .i64 1)], none⟩]) (.seq (.reg false [
      ⟨some 40, .mov (.t 2), none⟩,
      ⟨some 41, .mov (.t 3), none⟩,
      ⟨some 42, .callv (.t 40) [.t 41, .c (.str [111, 110, 101]), .c (.int .i64 0), .c (.int .i64 0)], none⟩]) (.seq (.reg false [
      ⟨some 43, .mov (.t 2), none⟩,
      ⟨some 44, .mov (.t 4), none⟩,
      ⟨some 45, .callv (.t 43) [.t 44, .c (.str [115, 107]), .c (.int .i64 1), .c (.int .i64 1)], none⟩]) (.seq (.reg false [
      ⟨some 46, .mov (.t 2), none⟩,
      ⟨some 47, .mov (.t 4), none⟩,
      ⟨some 48, .callv (.t 46) [.t 47, .c (.str [115, 104, 107]), .c (.int .i64 2), .c (.int .i64 2)], none⟩]) (.seq (.reg false [
      ⟨some 49, .mov (.t 2), none⟩,
      ⟨some 50, .mov (.t 4), none⟩,
      ⟨some 51, .callv (.t 49) [.t 50, .c (.str [110, 101, 119]), .c (.int .i64 1), .c (.int .i64 8)], none⟩]) (.seq (.reg false [
      ⟨some 52, .mov (.t 2), none⟩,
      ⟨some 53, .mov (.t 5), none⟩,
      ⟨some 54, .callv (.t 52) [.t 53, .c (.str [102, 115, 116]), .c (.int .i64 1), .c (.int .i64 1)], none⟩]) (.seq (.reg false [
      ⟨some 55, .mov (.t 2), none⟩,
      ⟨some 56, .mov (.t 5), none⟩,
      ⟨some 57, .callv (.t 55) [.t 56, .c (.str [115, 110, 100]), .c (.int .i64 1), .c (.int .i64 1)], none⟩]) (.seq (.reg false [
      ⟨some 58, .mov (.t 2), none⟩,
      ⟨some 59, .mov (.t 5), none⟩,
      ⟨some 60, .callv (.t 58) [.t 59, .c (.str [100, 101, 99]), .c (.int .i64 2), .c (.int .i64 2)], none⟩]) (.seq (.reg false [
      ⟨some 61, .mov (.t 2), none⟩,
      ⟨some 62, .mov (.t 5), none⟩,
      ⟨some 63, .callv (.t 61) [.t 62, .c (.str [97, 100, 101, 99]), .c (.int .i64 2), .c (.int .i64 2)], none⟩]) (.seq (.reg false [
      ⟨some 64, .mov (.t 2), none⟩,
      ⟨some 65, .mov (.t 5), none⟩,
      ⟨some 66, .callv (.t 64) [.t 65, .c (.str [111, 112, 101, 110]), .c (.int .i64 2), .c (.int .i64 2)], none⟩]) (.seq (.reg false [
      ⟨some 67, .mov (.t 2), none⟩,
      ⟨some 68, .mov (.t 5), none⟩,
      ⟨some 69, .callv (.t 67) [.t 68, .c (.str [114, 101, 97, 100]), .c (.int .i64 1), .c (.int .i64 1)], none⟩]) (.seq (.reg false [
      ⟨some 70, .ldg 1 1 false, none⟩,
      ⟨some 0, .mvs 70, none⟩]) (.ret))))))))))))))))))))))))))

def theory_Symbols : AFun := { nparams := 0, ntmps := 71, res := [.tmp 0], keep := false, body := theory_Symbols_b }
theorem theory_Symbols_body : theory_Symbols.body = theory_Symbols_b := rfl
theorem theory_Symbols_res : theory_Symbols.res = [.tmp 0] := rfl
theorem theory_Symbols_keep : theory_Symbols.keep = false := rfl

/-- sealring/theory.Symbols$1 : 45 -/
def theory_Symbols_c1_b : AC :=
  .reg false [
      ⟨some 9, .ldm 4, none⟩,
      ⟨some 10, .mov (.t 1), none⟩,
      ⟨some 11, .mov (.t 2), none⟩,
      ⟨some 12, .mov (.t 3), none⟩,
      ⟨some 13, .mov (.t 0), none⟩,
      ⟨some 14, .mkst [.str [], .int .i64 0, .int .i64 0, .int .i64 0] [(0, 1, .t 10), (1, 1, .t 11), (2, 1, .t 12), (3, 1, .t 13)], none⟩,
      ⟨some 15, .mksl 4 [.t 14], none⟩,
      ⟨some 16, .app 40 4 (.t 9) (.t 15), none⟩,
      ⟨none, .stm 4 16, none⟩]

def theory_Symbols_c1 : AFun := { nparams := 5, ntmps := 17, res := [], keep := false, body := theory_Symbols_c1_b }
theorem theory_Symbols_c1_body : theory_Symbols_c1.body = theory_Symbols_c1_b := rfl
theorem theory_Symbols_c1_res : theory_Symbols_c1.res = [] := rfl
theorem theory_Symbols_c1_keep : theory_Symbols_c1.keep = false := rfl

/-- sealring/theory.copied : 46 -/
def theory_copied_b : AC :=
  .seq (.reg false [
      ⟨some 1, .box (.t 0), none⟩,
      ⟨some 2, .alloc [.int .i64 0, .str [], .int .i64 0, .sl true 4 []], none⟩]) (.seq (.reg false [
      ⟨some 6, .ldf 1 0 4 true, none⟩,
      ⟨some 7, .call 47 [.t 6, .c (.sl true 1 [])], none⟩,
      ⟨some 5, .mov (.t 7), none⟩,
      ⟨some 8, .ext (.t 5) 0, none⟩,
      ⟨some 9, .ext (.t 5) 1, none⟩,
      ⟨some 3, .alloc [.int .i64 0, .str [], .int .i64 0, .sl true 4 []], none⟩,
      ⟨none, .stf 3 0 4 (.t 8), none⟩,
      ⟨some 4, .mov (.t 9), none⟩]) (.seq (.reg false [
      ⟨some 10, .ldf 3 0 4 true, none⟩,
      ⟨none, .stf 2 0 4 (.t 10), none⟩]) (.ret)))

def theory_copied : AFun := { nparams := 1, ntmps := 11, res := [.cell 2 4 true], keep := false, body := theory_copied_b }
theorem theory_copied_body : theory_copied.body = theory_copied_b := rfl
theorem theory_copied_res : theory_copied.res = [.cell 2 4 true] := rfl
theorem theory_copied_keep : theory_copied.keep = false := rfl

def term_At_l0 : AC :=
  .seq (.reg false [
      ⟨some 11, .bin .lss (.t 10) (.t 9), none⟩]) (.seq (.cond (.t 11) (.skip) (.exit 0)) (.seq (.block 1 (.seq (.reg false [
      ⟨some 12, .idxa 1 (.t 8) (.t 10), none⟩,
      ⟨some 13, .ld 12 1 false, none⟩,
      ⟨some 7, .mov (.t 13), none⟩]) (.seq (.seq (.reg false [
      ⟨some 14, .mov (.t 7), none⟩,
      ⟨some 15, .bin .lss (.t 14) (.c (.int .i64 0)), none⟩,
      ⟨some 16, .mov (.t 15), none⟩,
      ⟨some 17, .mov (.t 7), some (16, false)⟩,
      ⟨some 18, .fad 2 3, some (16, false)⟩,
      ⟨some 19, .ldf 2 3 1 false, some (16, false)⟩,
      ⟨some 20, .lenl (.t 19), some (16, false)⟩,
      ⟨some 21, .bin .geq (.t 17) (.t 20), some (16, false)⟩,
      ⟨some 22, .pick (.t 16) (.c (.bool true)) (.t 21), none⟩]) (.cond (.t 22) (.seq (.reg false [
      ⟨some 23, .mkst [.int .i64 0, .str [], .int .i64 0, .sl true 4 []] [], none⟩,
      ⟨none, .stf 4 0 4 (.t 23), none⟩,
      ⟨some 5, .mov (.c (.int .i64 7)), none⟩]) (.ret)) (.skip))) (.reg false [
      ⟨some 24, .fad 2 3, none⟩,
      ⟨some 25, .ldf 2 3 1 false, none⟩,
      ⟨some 26, .mov (.t 7), none⟩,
      ⟨some 27, .idxa 4 (.t 25) (.t 26), none⟩,
      ⟨some 28, .ld 27 4 true, none⟩,
      ⟨none, .stf 2 0 4 (.t 28), none⟩])))) (.reg false [
      ⟨some 29, .bin .add (.t 10) (.c (.int .i64 1)), none⟩,
      ⟨some 10, .mov (.t 29), none⟩])))

def term_At_r0 : AC :=
  .seq (.reg false [
      ⟨some 30, .ldf 2 0 4 true, none⟩,
      ⟨some 31, .call 48 [.t 30], none⟩,
      ⟨none, .stf 4 0 4 (.t 31), none⟩,
      ⟨some 5, .mov (.c (.int .i64 0)), none⟩]) (.ret)

/-- sealring/term.At : 47 -/
def term_At_b : AC :=
  .seq (.reg false [
      ⟨some 2, .box (.t 0), none⟩,
      ⟨some 4, .alloc [.int .i64 0, .str [], .int .i64 0, .sl true 4 []], none⟩,
      ⟨some 5, .mov (.c (.int .i64 0)), none⟩]) (.seq (.seq (.reg false [
      ⟨some 8, .mov (.t 1), none⟩,
      ⟨some 9, .lenl (.t 8), none⟩,
      ⟨some 10, .mov (.c (.int .i64 0)), none⟩]) (.block 0 (.loop (term_At_l0)))) (term_At_r0))

def term_At : AFun := { nparams := 2, ntmps := 32, res := [.cell 4 4 true, .tmp 5], keep := false, body := term_At_b }
theorem term_At_body : term_At.body = term_At_b := rfl
theorem term_At_res : term_At.res = [.cell 4 4 true, .tmp 5] := rfl
theorem term_At_keep : term_At.keep = false := rfl

def term_clone_l0 : AC :=
  .seq (.reg false [
      ⟨some 12, .bin .lss (.t 11) (.t 10), none⟩]) (.seq (.cond (.t 12) (.skip) (.exit 0)) (.seq (.block 1 (.seq (.reg false [
      ⟨some 13, .idxa 4 (.t 9) (.t 11), none⟩,
      ⟨some 14, .ld 13 4 true, none⟩,
      ⟨some 5, .alloc [.int .i64 0, .str [], .int .i64 0, .sl true 4 []], none⟩,
      ⟨none, .stf 5 0 4 (.t 14), none⟩]) (.reg true [
      ⟨some 15, .fad 1 3, none⟩,
      ⟨some 16, .ldfm 1 3, none⟩,
      ⟨some 17, .ldf 5 0 4 true, none⟩,
      ⟨some 18, .call 48 [.t 17], none⟩,
      ⟨some 19, .mksl 4 [.t 18], none⟩,
      ⟨some 20, .app 56 4 (.t 16) (.t 19), none⟩,
      ⟨some 21, .fad 1 3, none⟩,
      ⟨none, .stfm 1 3 20, none⟩]))) (.reg false [
      ⟨some 22, .bin .add (.t 11) (.c (.int .i64 1)), none⟩,
      ⟨some 11, .mov (.t 22), none⟩])))

def term_clone_r0 : AC :=
  .seq (.reg false [
      ⟨some 23, .ldf 1 0 4 true, none⟩,
      ⟨none, .stf 2 0 4 (.t 23), none⟩]) (.ret)

/-- sealring/term.clone : 48 -/
def term_clone_b : AC :=
  .seq (.reg false [
      ⟨some 1, .box (.t 0), none⟩,
      ⟨some 2, .alloc [.int .i64 0, .str [], .int .i64 0, .sl true 4 []], none⟩]) (.seq (.reg false [
      ⟨some 6, .fad 1 3, none⟩,
      ⟨some 7, .ldf 1 3 1 false, none⟩,
      ⟨some 3, .mvs 7, none⟩]) (.seq (.reg false [
      ⟨some 8, .fad 1 3, none⟩,
      ⟨none, .stf 1 3 1 (.c (.sl true 4 [])), none⟩]) (.seq (.seq (.reg false [
      ⟨some 9, .mov (.t 3), none⟩,
      ⟨some 10, .lenl (.t 9), none⟩,
      ⟨some 11, .mov (.c (.int .i64 0)), none⟩]) (.block 0 (.loop (term_clone_l0)))) (term_clone_r0))))

def term_clone : AFun := { nparams := 1, ntmps := 24, res := [.cell 2 4 true], keep := false, body := term_clone_b }
theorem term_clone_body : term_clone.body = term_clone_b := rfl
theorem term_clone_res : term_clone.res = [.cell 2 4 true] := rfl
theorem term_clone_keep : term_clone.keep = false := rfl

/-- sealring/theory.app : 49 -/
def theory_app_b : AC :=
  .seq (.reg false [
      ⟨some 4, .alloc [.int .i64 0, .str [], .int .i64 0, .sl true 4 []], none⟩]) (.seq (.reg false [
      ⟨some 5, .mov (.t 0), none⟩,
      ⟨some 6, .mov (.t 1), none⟩,
      ⟨some 7, .mkst [.int .i64 0, .str [], .int .i64 0, .sl true 4 []] [(0, 1, .c (.int .i64 3)), (1, 1, .t 5), (3, 1, .t 6)], none⟩,
      ⟨none, .stf 4 0 4 (.t 7), none⟩]) (.ret))

def theory_app : AFun := { nparams := 2, ntmps := 8, res := [.cell 4 4 true], keep := false, body := theory_app_b }
theorem theory_app_body : theory_app.body = theory_app_b := rfl
theorem theory_app_res : theory_app.res = [.cell 4 4 true] := rfl
theorem theory_app_keep : theory_app.keep = false := rfl

/-- sealring/ticket.copied : 50 -/
def ticket_copied_b : AC :=
  .seq (.reg false [
      ⟨some 2, .box (.t 0), none⟩,
      ⟨some 4, .alloc [.str [], .int .i64 0, .sl true 6 [], .int .i64 0, .sl true 2 [], .int .i64 0, .int .i64 0], none⟩]) (.seq (.reg true [
      ⟨some 5, .fad 2 2, none⟩,
      ⟨some 6, .ldf 2 2 1 false, none⟩,
      ⟨some 7, .call 51 [.t 6], none⟩,
      ⟨some 8, .fad 2 4, none⟩,
      ⟨some 9, .ldf 2 4 1 false, none⟩,
      ⟨some 10, .call 52 [.t 9], none⟩,
      ⟨some 11, .mov (.t 1), none⟩,
      ⟨some 12, .fad 2 2, none⟩,
      ⟨none, .stfm 2 2 7, none⟩,
      ⟨some 13, .fad 2 4, none⟩,
      ⟨none, .stfm 2 4 10, none⟩,
      ⟨some 14, .fad 2 6, none⟩,
      ⟨none, .stf 2 6 1 (.t 11), none⟩]) (.seq (.reg false [
      ⟨some 15, .ldf 2 0 7 true, none⟩,
      ⟨none, .stf 4 0 7 (.t 15), none⟩]) (.ret)))

def ticket_copied : AFun := { nparams := 2, ntmps := 16, res := [.cell 4 7 true], keep := false, body := ticket_copied_b }
theorem ticket_copied_body : ticket_copied.body = ticket_copied_b := rfl
theorem ticket_copied_res : ticket_copied.res = [.cell 4 7 true] := rfl
theorem ticket_copied_keep : ticket_copied.keep = false := rfl

/-- sealring/sealringref01.Format : 53 -/
def sealringref01_Format_b : AC :=
  .seq (.reg false [
      ⟨some 1, .box (.t 0), none⟩,
      ⟨some 2, .mov (.c (.str [])), none⟩,
      ⟨some 3, .mov (.c (.int .i64 0)), none⟩]) (.seq (.seq (.reg false [
      ⟨some 5, .ldf 1 0 4 true, none⟩,
      ⟨some 6, .call 54 [.t 5], none⟩,
      ⟨some 4, .mov (.t 6), none⟩]) (.seq (.reg false [
      ⟨some 7, .mov (.t 4), none⟩,
      ⟨some 8, .bin .neq (.t 7) (.c (.int .i64 0)), none⟩]) (.cond (.t 8) (.seq (.reg false [
      ⟨some 9, .mov (.t 4), none⟩,
      ⟨some 2, .mov (.c (.str [])), none⟩,
      ⟨some 3, .mov (.t 9), none⟩]) (.ret)) (.skip)))) (.seq (.reg false [
      ⟨some 10, .ldf 1 0 4 true, none⟩,
      ⟨some 11, .call 62 [.t 10], none⟩,
      ⟨some 2, .mov (.t 11), none⟩,
      ⟨some 3, .mov (.c (.int .i64 0)), none⟩]) (.ret)))

def sealringref01_Format : AFun := { nparams := 1, ntmps := 12, res := [.tmp 2, .tmp 3], keep := false, body := sealringref01_Format_b }
theorem sealringref01_Format_body : sealringref01_Format.body = sealringref01_Format_b := rfl
theorem sealringref01_Format_res : sealringref01_Format.res = [.tmp 2, .tmp 3] := rfl
theorem sealringref01_Format_keep : sealringref01_Format.keep = false := rfl

/-- sealring/sealringref01.Valid : 54 -/
def sealringref01_Valid_b : AC :=
  .seq (.reg false [
      ⟨some 1, .box (.t 0), none⟩,
      ⟨some 2, .mov (.c (.int .i64 0)), none⟩]) (.seq (.seq (.reg false [
      ⟨some 4, .ldf 1 0 4 true, none⟩,
      ⟨some 5, .call 55 [.t 4], none⟩,
      ⟨some 3, .mov (.t 5), none⟩]) (.seq (.reg false [
      ⟨some 6, .mov (.t 3), none⟩,
      ⟨some 7, .bin .neq (.t 6) (.c (.int .i64 0)), none⟩]) (.cond (.t 7) (.seq (.reg false [
      ⟨some 8, .mov (.t 3), none⟩,
      ⟨some 2, .mov (.t 8), none⟩]) (.ret)) (.skip)))) (.seq (.seq (.reg false [
      ⟨some 9, .ldf 1 0 4 true, none⟩,
      ⟨some 10, .call 60 [.t 9], none⟩,
      ⟨some 11, .bin .gtr (.t 10) (.c (.int .i64 400)), none⟩,
      ⟨some 12, .mov (.t 11), none⟩,
      ⟨some 13, .ldf 1 0 4 true, some (12, false)⟩,
      ⟨some 14, .call 61 [.t 13], some (12, false)⟩,
      ⟨some 15, .bin .gtr (.t 14) (.c (.int .i64 40)), some (12, false)⟩,
      ⟨some 16, .pick (.t 12) (.c (.bool true)) (.t 15), none⟩]) (.cond (.t 16) (.seq (.reg false [
      ⟨some 2, .mov (.c (.int .i64 3)), none⟩]) (.ret)) (.skip))) (.seq (.reg false [
      ⟨some 2, .mov (.c (.int .i64 0)), none⟩]) (.ret))))

def sealringref01_Valid : AFun := { nparams := 1, ntmps := 17, res := [.tmp 2], keep := false, body := sealringref01_Valid_b }
theorem sealringref01_Valid_body : sealringref01_Valid.body = sealringref01_Valid_b := rfl
theorem sealringref01_Valid_res : sealringref01_Valid.res = [.tmp 2] := rfl
theorem sealringref01_Valid_keep : sealringref01_Valid.keep = false := rfl

def sealringref01_nodes_l0 : AC :=
  .seq (.seq (.reg false [
      ⟨some 11, .mov (.t 4), none⟩,
      ⟨some 12, .fad 1 3, none⟩,
      ⟨some 13, .ldf 1 3 1 false, none⟩,
      ⟨some 14, .lenl (.t 13), none⟩,
      ⟨some 15, .bin .lss (.t 11) (.t 14), none⟩]) (.cond (.t 15) (.skip) (.exit 0))) (.seq (.block 1 (.seq (.reg false [
      ⟨some 18, .fad 1 3, none⟩,
      ⟨some 19, .ldf 1 3 1 false, none⟩,
      ⟨some 20, .mov (.t 4), none⟩,
      ⟨some 21, .idxa 4 (.t 19) (.t 20), none⟩,
      ⟨some 22, .ld 21 4 true, none⟩,
      ⟨some 23, .call 55 [.t 22], none⟩,
      ⟨some 5, .mov (.t 23), none⟩]) (.seq (.reg false [
      ⟨some 24, .mov (.t 5), none⟩,
      ⟨some 25, .bin .neq (.t 24) (.c (.int .i64 0)), none⟩]) (.cond (.t 25) (.seq (.reg false [
      ⟨some 26, .mov (.t 5), none⟩,
      ⟨some 2, .mov (.t 26), none⟩]) (.ret)) (.skip))))) (.reg false [
      ⟨some 16, .mov (.t 4), none⟩,
      ⟨some 17, .bin .add (.t 16) (.c (.int .i64 1)), none⟩,
      ⟨some 4, .mov (.t 17), none⟩]))

def sealringref01_nodes_r0 : AC :=
  .seq (.reg false [
      ⟨some 2, .mov (.c (.int .i64 0)), none⟩]) (.ret)

/-- sealring/sealringref01.nodes : 55 -/
def sealringref01_nodes_b : AC :=
  .seq (.reg false [
      ⟨some 1, .box (.t 0), none⟩,
      ⟨some 2, .mov (.c (.int .i64 0)), none⟩]) (.seq (.seq (.reg false [
      ⟨some 6, .ldf 1 0 4 true, none⟩,
      ⟨some 7, .call 56 [.t 6], none⟩,
      ⟨some 3, .mov (.t 7), none⟩]) (.seq (.reg false [
      ⟨some 8, .mov (.t 3), none⟩,
      ⟨some 9, .bin .neq (.t 8) (.c (.int .i64 0)), none⟩]) (.cond (.t 9) (.seq (.reg false [
      ⟨some 10, .mov (.t 3), none⟩,
      ⟨some 2, .mov (.t 10), none⟩]) (.ret)) (.skip)))) (.seq (.seq (.reg false [
      ⟨some 4, .mov (.c (.int .i64 0)), none⟩]) (.block 0 (.loop (sealringref01_nodes_l0)))) (sealringref01_nodes_r0)))

def sealringref01_nodes : AFun := { nparams := 1, ntmps := 27, res := [.tmp 2], keep := false, body := sealringref01_nodes_b }
theorem sealringref01_nodes_body : sealringref01_nodes.body = sealringref01_nodes_b := rfl
theorem sealringref01_nodes_res : sealringref01_nodes.res = [.tmp 2] := rfl
theorem sealringref01_nodes_keep : sealringref01_nodes.keep = false := rfl

/-- sealring/sealringref01.node : 56 -/
def sealringref01_node_b : AC :=
  .seq (.reg false [
      ⟨some 1, .box (.t 0), none⟩,
      ⟨some 2, .mov (.c (.int .i64 0)), none⟩]) (.seq (.reg false [
      ⟨some 4, .fad 1 0, none⟩,
      ⟨some 5, .ldf 1 0 1 false, none⟩,
      ⟨some 6, .bin .eql (.t 5) (.c (.int .i64 1)), none⟩,
      ⟨some 7, .mov (.t 6), none⟩,
      ⟨some 8, .fad 1 0, some (7, false)⟩,
      ⟨some 9, .ldf 1 0 1 false, some (7, false)⟩,
      ⟨some 10, .bin .eql (.t 9) (.c (.int .i64 2)), some (7, false)⟩,
      ⟨some 11, .pick (.t 7) (.c (.bool true)) (.t 10), none⟩,
      ⟨some 3, .mov (.t 11), none⟩]) (.seq (.seq (.reg false [
      ⟨some 12, .mov (.t 3), none⟩,
      ⟨some 13, .un .not (.t 12), none⟩,
      ⟨some 14, .mov (.t 13), none⟩,
      ⟨some 15, .fad 1 0, some (14, true)⟩,
      ⟨some 16, .ldf 1 0 1 false, some (14, true)⟩,
      ⟨some 17, .bin .neq (.t 16) (.c (.int .i64 3)), some (14, true)⟩,
      ⟨some 18, .pick (.t 14) (.t 17) (.c (.bool false)), none⟩,
      ⟨some 19, .mov (.t 18), none⟩,
      ⟨some 20, .fad 1 2, some (19, false)⟩,
      ⟨some 21, .ldf 1 2 1 false, some (19, false)⟩,
      ⟨some 22, .bin .lss (.t 21) (.c (.int .i64 0)), some (19, false)⟩,
      ⟨some 23, .pick (.t 19) (.c (.bool true)) (.t 22), none⟩,
      ⟨some 24, .mov (.t 23), none⟩,
      ⟨some 25, .fad 1 2, some (24, false)⟩,
      ⟨some 26, .ldf 1 2 1 false, some (24, false)⟩,
      ⟨some 27, .bin .gtr (.t 26) (.c (.int .i64 5)), some (24, false)⟩,
      ⟨some 28, .pick (.t 24) (.c (.bool true)) (.t 27), none⟩,
      ⟨some 29, .mov (.t 28), none⟩,
      ⟨some 30, .mov (.t 3), some (29, false)⟩,
      ⟨some 31, .un .not (.t 30), some (29, false)⟩,
      ⟨some 32, .mov (.t 31), some (29, false)⟩,
      ⟨some 33, .fad 1 2, some (32, true)⟩,
      ⟨some 34, .ldf 1 2 1 false, some (32, true)⟩,
      ⟨some 35, .bin .neq (.t 34) (.c (.int .i64 0)), some (32, true)⟩,
      ⟨some 36, .pick (.t 32) (.t 35) (.c (.bool false)), some (29, false)⟩,
      ⟨some 37, .pick (.t 29) (.c (.bool true)) (.t 36), none⟩,
      ⟨some 38, .mov (.t 37), none⟩,
      ⟨some 39, .mov (.t 3), some (38, false)⟩,
      ⟨some 40, .mov (.t 39), some (38, false)⟩,
      ⟨some 41, .fad 1 3, some (40, true)⟩,
      ⟨some 42, .ldf 1 3 1 false, some (40, true)⟩,
      ⟨some 43, .lenl (.t 42), some (40, true)⟩,
      ⟨some 44, .bin .gtr (.t 43) (.c (.int .i64 0)), some (40, true)⟩,
      ⟨some 45, .pick (.t 40) (.t 44) (.c (.bool false)), some (38, false)⟩,
      ⟨some 46, .pick (.t 38) (.c (.bool true)) (.t 45), none⟩]) (.cond (.t 46) (.seq (.reg false [
      ⟨some 2, .mov (.c (.int .i64 1)), none⟩]) (.ret)) (.skip))) (.seq (.seq (.reg false [
      ⟨some 47, .fad 1 1, none⟩,
      ⟨some 48, .ldf 1 1 1 false, none⟩,
      ⟨some 49, .call 57 [.t 48], none⟩,
      ⟨some 50, .un .not (.t 49), none⟩]) (.cond (.t 50) (.seq (.reg false [
      ⟨some 2, .mov (.c (.int .i64 2)), none⟩]) (.ret)) (.skip))) (.seq (.seq (.reg false [
      ⟨some 51, .fad 1 3, none⟩,
      ⟨some 52, .ldf 1 3 1 false, none⟩,
      ⟨some 53, .lenl (.t 52), none⟩,
      ⟨some 54, .bin .gtr (.t 53) (.c (.int .i64 8)), none⟩]) (.cond (.t 54) (.seq (.reg false [
      ⟨some 2, .mov (.c (.int .i64 3)), none⟩]) (.ret)) (.skip))) (.seq (.reg false [
      ⟨some 2, .mov (.c (.int .i64 0)), none⟩]) (.ret))))))

def sealringref01_node : AFun := { nparams := 1, ntmps := 55, res := [.tmp 2], keep := false, body := sealringref01_node_b }
theorem sealringref01_node_body : sealringref01_node.body = sealringref01_node_b := rfl
theorem sealringref01_node_res : sealringref01_node.res = [.tmp 2] := rfl
theorem sealringref01_node_keep : sealringref01_node.keep = false := rfl

def sealringref01_IsName_l0 : AC :=
  .seq (.seq (.reg false [
      ⟨some 18, .mov (.t 3), none⟩,
      ⟨some 19, .mov (.t 0), none⟩,
      ⟨some 20, .lens (.t 19), none⟩,
      ⟨some 21, .bin .lss (.t 18) (.t 20), none⟩]) (.cond (.t 21) (.skip) (.exit 0))) (.seq (.block 1 (.seq (.reg false [
      ⟨some 24, .mov (.t 0), none⟩,
      ⟨some 25, .mov (.t 3), none⟩,
      ⟨some 26, .idx (.t 24) (.t 25), none⟩,
      ⟨some 27, .call 58 [.t 26], none⟩,
      ⟨some 28, .un .not (.t 27), none⟩,
      ⟨some 29, .mov (.t 28), none⟩,
      ⟨some 30, .mov (.t 0), some (29, true)⟩,
      ⟨some 31, .mov (.t 3), some (29, true)⟩,
      ⟨some 32, .idx (.t 30) (.t 31), some (29, true)⟩,
      ⟨some 33, .call 59 [.t 32], some (29, true)⟩,
      ⟨some 34, .un .not (.t 33), some (29, true)⟩,
      ⟨some 35, .pick (.t 29) (.t 34) (.c (.bool false)), none⟩,
      ⟨some 36, .mov (.t 35), none⟩,
      ⟨some 37, .mov (.t 0), some (36, true)⟩,
      ⟨some 38, .mov (.t 3), some (36, true)⟩,
      ⟨some 39, .idx (.t 37) (.t 38), some (36, true)⟩,
      ⟨some 40, .bin .neq (.t 39) (.c (.int .u8 95)), some (36, true)⟩,
      ⟨some 41, .pick (.t 36) (.t 40) (.c (.bool false)), none⟩,
      ⟨some 42, .mov (.t 41), none⟩,
      ⟨some 43, .mov (.t 0), some (42, true)⟩,
      ⟨some 44, .mov (.t 3), some (42, true)⟩,
      ⟨some 45, .idx (.t 43) (.t 44), some (42, true)⟩,
      ⟨some 46, .bin .neq (.t 45) (.c (.int .u8 35)), some (42, true)⟩,
      ⟨some 47, .pick (.t 42) (.t 46) (.c (.bool false)), none⟩]) (.cond (.t 47) (.seq (.reg false [
      ⟨some 2, .mov (.c (.bool false)), none⟩]) (.ret)) (.skip)))) (.reg false [
      ⟨some 22, .mov (.t 3), none⟩,
      ⟨some 23, .bin .add (.t 22) (.c (.int .i64 1)), none⟩,
      ⟨some 3, .mov (.t 23), none⟩]))

def sealringref01_IsName_r0 : AC :=
  .seq (.reg false [
      ⟨some 2, .mov (.c (.bool true)), none⟩]) (.ret)

/-- sealring/sealringref01.IsName : 57 -/
def sealringref01_IsName_b : AC :=
  .seq (.reg false [
      ⟨some 2, .mov (.c (.bool false)), none⟩]) (.seq (.seq (.reg false [
      ⟨some 4, .mov (.t 0), none⟩,
      ⟨some 5, .lens (.t 4), none⟩,
      ⟨some 6, .bin .eql (.t 5) (.c (.int .i64 0)), none⟩,
      ⟨some 7, .mov (.t 6), none⟩,
      ⟨some 8, .mov (.t 0), some (7, false)⟩,
      ⟨some 9, .lens (.t 8), some (7, false)⟩,
      ⟨some 10, .bin .gtr (.t 9) (.c (.int .i64 24)), some (7, false)⟩,
      ⟨some 11, .pick (.t 7) (.c (.bool true)) (.t 10), none⟩,
      ⟨some 12, .mov (.t 11), none⟩,
      ⟨some 13, .mov (.t 0), some (12, false)⟩,
      ⟨some 14, .idx (.t 13) (.c (.int .i64 0)), some (12, false)⟩,
      ⟨some 15, .call 58 [.t 14], some (12, false)⟩,
      ⟨some 16, .un .not (.t 15), some (12, false)⟩,
      ⟨some 17, .pick (.t 12) (.c (.bool true)) (.t 16), none⟩]) (.cond (.t 17) (.seq (.reg false [
      ⟨some 2, .mov (.c (.bool false)), none⟩]) (.ret)) (.skip))) (.seq (.seq (.reg false [
      ⟨some 3, .mov (.c (.int .i64 0)), none⟩]) (.block 0 (.loop (sealringref01_IsName_l0)))) (sealringref01_IsName_r0)))

def sealringref01_IsName : AFun := { nparams := 1, ntmps := 48, res := [.tmp 2], keep := false, body := sealringref01_IsName_b }
theorem sealringref01_IsName_body : sealringref01_IsName.body = sealringref01_IsName_b := rfl
theorem sealringref01_IsName_res : sealringref01_IsName.res = [.tmp 2] := rfl
theorem sealringref01_IsName_keep : sealringref01_IsName.keep = false := rfl

/-- sealring/sealringref01.letter : 58 -/
def sealringref01_letter_b : AC :=
  .seq (.reg false [
      ⟨some 2, .mov (.c (.bool false)), none⟩]) (.seq (.reg false [
      ⟨some 3, .mov (.t 0), none⟩,
      ⟨some 4, .bin .geq (.t 3) (.c (.int .u8 97)), none⟩,
      ⟨some 5, .mov (.t 4), none⟩,
      ⟨some 6, .mov (.t 0), some (5, true)⟩,
      ⟨some 7, .bin .leq (.t 6) (.c (.int .u8 122)), some (5, true)⟩,
      ⟨some 8, .pick (.t 5) (.t 7) (.c (.bool false)), none⟩,
      ⟨some 9, .mov (.t 8), none⟩,
      ⟨some 10, .mov (.t 0), some (9, false)⟩,
      ⟨some 11, .bin .geq (.t 10) (.c (.int .u8 65)), some (9, false)⟩,
      ⟨some 12, .mov (.t 11), some (9, false)⟩,
      ⟨some 13, .mov (.t 0), some (12, true)⟩,
      ⟨some 14, .bin .leq (.t 13) (.c (.int .u8 90)), some (12, true)⟩,
      ⟨some 15, .pick (.t 12) (.t 14) (.c (.bool false)), some (9, false)⟩,
      ⟨some 16, .pick (.t 9) (.c (.bool true)) (.t 15), none⟩,
      ⟨some 2, .mov (.t 16), none⟩]) (.ret))

def sealringref01_letter : AFun := { nparams := 1, ntmps := 17, res := [.tmp 2], keep := false, body := sealringref01_letter_b }
theorem sealringref01_letter_body : sealringref01_letter.body = sealringref01_letter_b := rfl
theorem sealringref01_letter_res : sealringref01_letter.res = [.tmp 2] := rfl
theorem sealringref01_letter_keep : sealringref01_letter.keep = false := rfl

/-- sealring/sealringref01.digit : 59 -/
def sealringref01_digit_b : AC :=
  .seq (.reg false [
      ⟨some 2, .mov (.c (.bool false)), none⟩]) (.seq (.reg false [
      ⟨some 3, .mov (.t 0), none⟩,
      ⟨some 4, .bin .geq (.t 3) (.c (.int .u8 48)), none⟩,
      ⟨some 5, .mov (.t 4), none⟩,
      ⟨some 6, .mov (.t 0), some (5, true)⟩,
      ⟨some 7, .bin .leq (.t 6) (.c (.int .u8 57)), some (5, true)⟩,
      ⟨some 8, .pick (.t 5) (.t 7) (.c (.bool false)), none⟩,
      ⟨some 2, .mov (.t 8), none⟩]) (.ret))

def sealringref01_digit : AFun := { nparams := 1, ntmps := 9, res := [.tmp 2], keep := false, body := sealringref01_digit_b }
theorem sealringref01_digit_body : sealringref01_digit.body = sealringref01_digit_b := rfl
theorem sealringref01_digit_res : sealringref01_digit.res = [.tmp 2] := rfl
theorem sealringref01_digit_keep : sealringref01_digit.keep = false := rfl

def sealringref01_Size_l0 : AC :=
  .seq (.seq (.reg false [
      ⟨some 5, .mov (.t 4), none⟩,
      ⟨some 6, .fad 1 3, none⟩,
      ⟨some 7, .ldf 1 3 1 false, none⟩,
      ⟨some 8, .lenl (.t 7), none⟩,
      ⟨some 9, .bin .lss (.t 5) (.t 8), none⟩]) (.cond (.t 9) (.skip) (.exit 0))) (.seq (.block 1 (.reg false [
      ⟨some 12, .mov (.t 3), none⟩,
      ⟨some 13, .fad 1 3, none⟩,
      ⟨some 14, .ldf 1 3 1 false, none⟩,
      ⟨some 15, .mov (.t 4), none⟩,
      ⟨some 16, .idxa 4 (.t 14) (.t 15), none⟩,
      ⟨some 17, .ld 16 4 true, none⟩,
      ⟨some 18, .call 60 [.t 17], none⟩,
      ⟨some 19, .bin .add (.t 12) (.t 18), none⟩,
      ⟨some 3, .mov (.t 19), none⟩])) (.reg false [
      ⟨some 10, .mov (.t 4), none⟩,
      ⟨some 11, .bin .add (.t 10) (.c (.int .i64 1)), none⟩,
      ⟨some 4, .mov (.t 11), none⟩]))

def sealringref01_Size_r0 : AC :=
  .seq (.reg false [
      ⟨some 20, .mov (.t 3), none⟩,
      ⟨some 2, .mov (.t 20), none⟩]) (.ret)

/-- sealring/sealringref01.Size : 60 -/
def sealringref01_Size_b : AC :=
  .seq (.reg false [
      ⟨some 1, .box (.t 0), none⟩,
      ⟨some 2, .mov (.c (.int .i64 0)), none⟩]) (.seq (.reg false [
      ⟨some 3, .mov (.c (.int .i64 1)), none⟩]) (.seq (.seq (.reg false [
      ⟨some 4, .mov (.c (.int .i64 0)), none⟩]) (.block 0 (.loop (sealringref01_Size_l0)))) (sealringref01_Size_r0)))

def sealringref01_Size : AFun := { nparams := 1, ntmps := 21, res := [.tmp 2], keep := false, body := sealringref01_Size_b }
theorem sealringref01_Size_body : sealringref01_Size.body = sealringref01_Size_b := rfl
theorem sealringref01_Size_res : sealringref01_Size.res = [.tmp 2] := rfl
theorem sealringref01_Size_keep : sealringref01_Size.keep = false := rfl

def sealringref01_Depth_l0 : AC :=
  .seq (.seq (.reg false [
      ⟨some 5, .mov (.t 4), none⟩,
      ⟨some 6, .fad 1 3, none⟩,
      ⟨some 7, .ldf 1 3 1 false, none⟩,
      ⟨some 8, .lenl (.t 7), none⟩,
      ⟨some 9, .bin .lss (.t 5) (.t 8), none⟩]) (.cond (.t 9) (.skip) (.exit 0))) (.seq (.block 1 (.reg false [
      ⟨some 12, .mov (.t 3), none⟩,
      ⟨some 13, .fad 1 3, none⟩,
      ⟨some 14, .ldf 1 3 1 false, none⟩,
      ⟨some 15, .mov (.t 4), none⟩,
      ⟨some 16, .idxa 4 (.t 14) (.t 15), none⟩,
      ⟨some 17, .ld 16 4 true, none⟩,
      ⟨some 18, .call 61 [.t 17], none⟩,
      ⟨some 19, .mx (.t 12) (.t 18), none⟩,
      ⟨some 3, .mov (.t 19), none⟩])) (.reg false [
      ⟨some 10, .mov (.t 4), none⟩,
      ⟨some 11, .bin .add (.t 10) (.c (.int .i64 1)), none⟩,
      ⟨some 4, .mov (.t 11), none⟩]))

def sealringref01_Depth_r0 : AC :=
  .seq (.reg false [
      ⟨some 20, .mov (.t 3), none⟩,
      ⟨some 21, .bin .add (.t 20) (.c (.int .i64 1)), none⟩,
      ⟨some 2, .mov (.t 21), none⟩]) (.ret)

/-- sealring/sealringref01.Depth : 61 -/
def sealringref01_Depth_b : AC :=
  .seq (.reg false [
      ⟨some 1, .box (.t 0), none⟩,
      ⟨some 2, .mov (.c (.int .i64 0)), none⟩]) (.seq (.reg false [
      ⟨some 3, .mov (.c (.int .i64 0)), none⟩]) (.seq (.seq (.reg false [
      ⟨some 4, .mov (.c (.int .i64 0)), none⟩]) (.block 0 (.loop (sealringref01_Depth_l0)))) (sealringref01_Depth_r0)))

def sealringref01_Depth : AFun := { nparams := 1, ntmps := 22, res := [.tmp 2], keep := false, body := sealringref01_Depth_b }
theorem sealringref01_Depth_body : sealringref01_Depth.body = sealringref01_Depth_b := rfl
theorem sealringref01_Depth_res : sealringref01_Depth.res = [.tmp 2] := rfl
theorem sealringref01_Depth_keep : sealringref01_Depth.keep = false := rfl

def sealringref01_Text_l0 : AC :=
  .seq (.seq (.reg false [
      ⟨some 35, .mov (.t 4), none⟩,
      ⟨some 36, .fad 1 3, none⟩,
      ⟨some 37, .ldf 1 3 1 false, none⟩,
      ⟨some 38, .lenl (.t 37), none⟩,
      ⟨some 39, .bin .lss (.t 35) (.t 38), none⟩]) (.cond (.t 39) (.skip) (.exit 1))) (.seq (.block 2 (.seq (.seq (.reg false [
      ⟨some 42, .mov (.t 4), none⟩,
      ⟨some 43, .bin .gtr (.t 42) (.c (.int .i64 0)), none⟩]) (.cond (.t 43) (.reg false [
      ⟨some 44, .mov (.t 3), none⟩,
      ⟨some 45, .bin .add (.t 44) (.c (.str [44, 32])), none⟩,
      ⟨some 3, .mov (.t 45), none⟩]) (.skip))) (.reg false [
      ⟨some 46, .mov (.t 3), none⟩,
      ⟨some 47, .fad 1 3, none⟩,
      ⟨some 48, .ldf 1 3 1 false, none⟩,
      ⟨some 49, .mov (.t 4), none⟩,
      ⟨some 50, .idxa 4 (.t 48) (.t 49), none⟩,
      ⟨some 51, .ld 50 4 true, none⟩,
      ⟨some 52, .call 62 [.t 51], none⟩,
      ⟨some 53, .bin .add (.t 46) (.t 52), none⟩,
      ⟨some 3, .mov (.t 53), none⟩]))) (.reg false [
      ⟨some 40, .mov (.t 4), none⟩,
      ⟨some 41, .bin .add (.t 40) (.c (.int .i64 1)), none⟩,
      ⟨some 4, .mov (.t 41), none⟩]))

def sealringref01_Text_r0 : AC :=
  .seq (.reg false [
      ⟨some 54, .mov (.t 3), none⟩,
      ⟨some 55, .bin .add (.t 54) (.c (.str [41])), none⟩,
      ⟨some 2, .mov (.t 55), none⟩]) (.ret)

/-- sealring/sealringref01.Text : 62 -/
def sealringref01_Text_b : AC :=
  .seq (.reg false [
      ⟨some 1, .box (.t 0), none⟩,
      ⟨some 2, .mov (.c (.str [])), none⟩]) (.seq (.seq (.reg false [
      ⟨some 5, .fad 1 0, none⟩,
      ⟨some 6, .ldf 1 0 1 false, none⟩]) (.block 0 (.seq (.reg false [
      ⟨some 8, .bin .eql (.t 6) (.c (.int .i64 1)), none⟩,
      ⟨some 7, .mov (.t 8), none⟩]) (.cond (.t 7) (.seq (.seq (.reg false [
      ⟨some 9, .fad 1 2, none⟩,
      ⟨some 10, .ldf 1 2 1 false, none⟩,
      ⟨some 11, .bin .eql (.t 10) (.c (.int .i64 0)), none⟩]) (.cond (.t 11) (.seq (.reg false [
      ⟨some 12, .fad 1 1, none⟩,
      ⟨some 13, .ldf 1 1 1 false, none⟩,
      ⟨some 14, .bin .add (.c (.str [63])) (.t 13), none⟩,
      ⟨some 2, .mov (.t 14), none⟩]) (.ret)) (.skip))) (.seq (.reg true [
      ⟨some 15, .fad 1 1, none⟩,
      ⟨some 16, .ldf 1 1 1 false, none⟩,
      ⟨some 17, .bin .add (.c (.str [63])) (.t 16), none⟩,
      ⟨some 18, .bin .add (.t 17) (.c (.str [58])), none⟩,
      ⟨some 19, .fad 1 2, none⟩,
      ⟨some 20, .ldf 1 2 1 false, none⟩,
      ⟨some 21, .call 63 [.t 20], none⟩,
      ⟨some 22, .bin .add (.t 18) (.t 21), none⟩,
      ⟨some 2, .mov (.t 22), none⟩]) (.ret))) (.seq (.reg false [
      ⟨some 24, .bin .eql (.t 6) (.c (.int .i64 2)), none⟩,
      ⟨some 23, .mov (.t 24), none⟩]) (.cond (.t 23) (.seq (.reg true [
      ⟨some 25, .fad 1 1, none⟩,
      ⟨some 26, .ldf 1 1 1 false, none⟩,
      ⟨some 27, .bin .add (.t 26) (.c (.str [58])), none⟩,
      ⟨some 28, .fad 1 2, none⟩,
      ⟨some 29, .ldf 1 2 1 false, none⟩,
      ⟨some 30, .call 63 [.t 29], none⟩,
      ⟨some 31, .bin .add (.t 27) (.t 30), none⟩,
      ⟨some 2, .mov (.t 31), none⟩]) (.ret)) (.skip))))))) (.seq (.reg false [
      ⟨some 32, .fad 1 1, none⟩,
      ⟨some 33, .ldf 1 1 1 false, none⟩,
      ⟨some 34, .bin .add (.t 33) (.c (.str [40])), none⟩,
      ⟨some 3, .mov (.t 34), none⟩]) (.seq (.seq (.reg false [
      ⟨some 4, .mov (.c (.int .i64 0)), none⟩]) (.block 1 (.loop (sealringref01_Text_l0)))) (sealringref01_Text_r0))))

def sealringref01_Text : AFun := { nparams := 1, ntmps := 56, res := [.tmp 2], keep := false, body := sealringref01_Text_b }
theorem sealringref01_Text_body : sealringref01_Text.body = sealringref01_Text_b := rfl
theorem sealringref01_Text_res : sealringref01_Text.res = [.tmp 2] := rfl
theorem sealringref01_Text_keep : sealringref01_Text.keep = false := rfl

/-- sealring/sealringref01.word : 63 -/
def sealringref01_word_b : AC :=
  .seq (.reg false [
      ⟨some 2, .mov (.c (.str [])), none⟩]) (.seq (.reg false [
      ⟨some 3, .mksl 1 [.c (.str [97, 110, 121]), .c (.str [97, 103, 101, 110, 116]), .c (.str [110, 111, 110, 99, 101]), .c (.str [107, 101, 121]), .c (.str [100, 97, 116, 97]), .c (.str [116, 97, 103])], none⟩,
      ⟨some 4, .mov (.t 0), none⟩,
      ⟨some 5, .idxa 1 (.t 3) (.t 4), none⟩,
      ⟨some 6, .ld 5 1 false, none⟩,
      ⟨some 2, .mov (.t 6), none⟩]) (.ret))

def sealringref01_word : AFun := { nparams := 1, ntmps := 7, res := [.tmp 2], keep := false, body := sealringref01_word_b }
theorem sealringref01_word_body : sealringref01_word.body = sealringref01_word_b := rfl
theorem sealringref01_word_res : sealringref01_word.res = [.tmp 2] := rfl
theorem sealringref01_word_keep : sealringref01_word.keep = false := rfl

/-- sealring/ticket.Rotate : 64 -/
def ticket_Rotate_b : AC :=
  .seq (.reg false [
      ⟨some 2, .box (.t 0), none⟩,
      ⟨some 4, .alloc [.str [], .int .i64 0, .sl true 6 [], .int .i64 0, .sl true 2 [], .int .i64 0, .int .i64 0], none⟩,
      ⟨some 5, .mov (.c (.int .i64 0)), none⟩]) (.seq (.seq (.reg false [
      ⟨some 8, .ldf 2 0 7 true, none⟩,
      ⟨some 9, .mov (.t 1), none⟩,
      ⟨some 10, .call 26 [.t 8, .t 9], none⟩,
      ⟨some 6, .mov (.t 10), none⟩]) (.seq (.reg false [
      ⟨some 11, .mov (.t 6), none⟩,
      ⟨some 12, .bin .neq (.t 11) (.c (.int .i64 0)), none⟩]) (.cond (.t 12) (.seq (.reg false [
      ⟨some 13, .mkst [.str [], .int .i64 0, .sl true 6 [], .int .i64 0, .sl true 2 [], .int .i64 0, .int .i64 0] [], none⟩,
      ⟨some 14, .mov (.t 6), none⟩,
      ⟨none, .stf 4 0 7 (.t 13), none⟩,
      ⟨some 5, .mov (.t 14), none⟩]) (.ret)) (.skip)))) (.seq (.seq (.reg false [
      ⟨some 15, .fad 2 2, none⟩,
      ⟨some 16, .ldf 2 2 1 false, none⟩,
      ⟨some 17, .lenl (.t 16), none⟩,
      ⟨some 18, .bin .eql (.t 17) (.c (.int .i64 8)), none⟩,
      ⟨some 19, .mov (.t 18), none⟩,
      ⟨some 20, .fad 2 1, some (19, false)⟩,
      ⟨some 21, .ldf 2 1 1 false, some (19, false)⟩,
      ⟨some 22, .bin .eql (.t 21) (.c (.int .i64 10000)), some (19, false)⟩,
      ⟨some 23, .pick (.t 19) (.c (.bool true)) (.t 22), none⟩]) (.cond (.t 23) (.seq (.reg false [
      ⟨some 24, .mkst [.str [], .int .i64 0, .sl true 6 [], .int .i64 0, .sl true 2 [], .int .i64 0, .int .i64 0] [], none⟩,
      ⟨none, .stf 4 0 7 (.t 24), none⟩,
      ⟨some 5, .mov (.c (.int .i64 3)), none⟩]) (.ret)) (.skip))) (.seq (.reg false [
      ⟨some 25, .ldf 2 0 7 true, none⟩,
      ⟨some 26, .mov (.t 1), none⟩,
      ⟨some 27, .call 65 [.t 25, .t 26], none⟩,
      ⟨some 7, .alloc [.str [], .int .i64 0, .sl true 6 [], .int .i64 0, .sl true 2 [], .int .i64 0, .int .i64 0], none⟩,
      ⟨none, .stf 7 0 7 (.t 27), none⟩]) (.seq (.reg false [
      ⟨some 28, .fad 7 2, none⟩,
      ⟨some 29, .ldf 7 2 1 false, none⟩,
      ⟨some 30, .fad 7 2, none⟩,
      ⟨some 31, .ldf 7 2 1 false, none⟩,
      ⟨some 32, .lenl (.t 31), none⟩,
      ⟨some 33, .bin .sub (.t 32) (.c (.int .i64 1)), none⟩,
      ⟨some 34, .mov (.t 1), none⟩,
      ⟨some 35, .fad 2 5, none⟩,
      ⟨some 36, .ldf 2 5 1 false, none⟩,
      ⟨some 37, .bin .add (.t 34) (.t 36), none⟩,
      ⟨some 38, .idxa 6 (.t 29) (.t 33), none⟩,
      ⟨some 39, .fadr 38 1, none⟩,
      ⟨none, .st 39 1 (.t 37), none⟩]) (.seq (.reg false [
      ⟨some 40, .fad 7 1, none⟩,
      ⟨some 41, .ldf 7 1 1 false, none⟩,
      ⟨some 42, .bin .add (.t 41) (.c (.int .i64 1)), none⟩,
      ⟨some 43, .fad 7 1, none⟩,
      ⟨none, .stf 7 1 1 (.t 42), none⟩]) (.seq (.reg true [
      ⟨some 44, .fad 7 2, none⟩,
      ⟨some 45, .ldf 7 2 1 false, none⟩,
      ⟨some 46, .fad 7 1, none⟩,
      ⟨some 47, .ldf 7 1 1 false, none⟩,
      ⟨some 48, .fad 2 0, none⟩,
      ⟨some 49, .ldf 2 0 1 false, none⟩,
      ⟨some 50, .fad 7 1, none⟩,
      ⟨some 51, .ldf 7 1 1 false, none⟩,
      ⟨some 52, .call 17 [.t 49, .t 51], none⟩,
      ⟨some 53, .mkst [.int .i64 0, .int .i64 0, .int .i64 0, .str [], .int .i64 0, .sl true 4 []] [(0, 1, .t 47), (2, 4, .t 52)], none⟩,
      ⟨some 54, .mksl 6 [.t 53], none⟩,
      ⟨some 55, .appz 72 6 45 (.t 54), none⟩,
      ⟨some 56, .fad 7 2, none⟩,
      ⟨none, .stfm 7 2 55, none⟩]) (.seq (.reg false [
      ⟨some 57, .ldf 7 0 7 true, none⟩,
      ⟨none, .stf 4 0 7 (.t 57), none⟩,
      ⟨some 5, .mov (.c (.int .i64 0)), none⟩]) (.ret))))))))

def ticket_Rotate : AFun := { nparams := 2, ntmps := 58, res := [.cell 4 7 true, .tmp 5], keep := false, body := ticket_Rotate_b }
theorem ticket_Rotate_body : ticket_Rotate.body = ticket_Rotate_b := rfl
theorem ticket_Rotate_res : ticket_Rotate.res = [.cell 4 7 true, .tmp 5] := rfl
theorem ticket_Rotate_keep : ticket_Rotate.keep = false := rfl

/-- sealring/ticket.copied@k : 65 -/
def ticket_copied_k_b : AC :=
  .seq (.reg false [
      ⟨some 2, .box (.t 0), none⟩,
      ⟨some 4, .alloc [.str [], .int .i64 0, .sl true 6 [], .int .i64 0, .sl true 2 [], .int .i64 0, .int .i64 0], none⟩]) (.seq (.reg true [
      ⟨some 5, .fad 2 2, none⟩,
      ⟨some 6, .ldf 2 2 1 false, none⟩,
      ⟨some 7, .call 66 [.t 6], none⟩,
      ⟨some 8, .fad 2 4, none⟩,
      ⟨some 9, .ldf 2 4 1 false, none⟩,
      ⟨some 10, .call 52 [.t 9], none⟩,
      ⟨some 11, .mov (.t 1), none⟩,
      ⟨some 12, .fad 2 2, none⟩,
      ⟨none, .stf 2 2 1 (.t 7), none⟩,
      ⟨some 13, .fad 2 4, none⟩,
      ⟨none, .stfm 2 4 10, none⟩,
      ⟨some 14, .fad 2 6, none⟩,
      ⟨none, .stf 2 6 1 (.t 11), none⟩]) (.seq (.reg false [
      ⟨some 15, .ldf 2 0 7 true, none⟩,
      ⟨none, .stf 4 0 7 (.t 15), none⟩]) (.ret)))

def ticket_copied_k : AFun := { nparams := 2, ntmps := 16, res := [.cell 4 7 true], keep := true, body := ticket_copied_k_b }
theorem ticket_copied_k_body : ticket_copied_k.body = ticket_copied_k_b := rfl
theorem ticket_copied_k_res : ticket_copied_k.res = [.cell 4 7 true] := rfl
theorem ticket_copied_k_keep : ticket_copied_k.keep = true := rfl

/-- sealring/ticket.Resume : 67 -/
def ticket_Resume_b : AC :=
  .seq (.reg false [
      ⟨some 3, .box (.t 0), none⟩,
      ⟨some 4, .box (.t 1), none⟩,
      ⟨some 6, .alloc [.str [], .int .i64 0, .sl true 6 [], .int .i64 0, .sl true 2 [], .int .i64 0, .int .i64 0], none⟩,
      ⟨some 7, .alloc [.int .i64 0, .str [], .int .i64 0, .sl true 4 []], none⟩,
      ⟨some 8, .mov (.c (.int .i64 0)), none⟩]) (.seq (.reg false [
      ⟨some 14, .ldf 3 0 7 true, none⟩,
      ⟨some 15, .mov (.t 2), none⟩,
      ⟨some 16, .call 26 [.t 14, .t 15], none⟩,
      ⟨some 9, .mov (.t 16), none⟩]) (.seq (.reg false [
      ⟨some 10, .alloc [.str [], .int .i64 0, .str [], .int .i64 0, .sl true 4 [], .int .i64 0, .int .i64 0], none⟩]) (.seq (.seq (.reg false [
      ⟨some 17, .mov (.t 9), none⟩,
      ⟨some 18, .bin .eql (.t 17) (.c (.int .i64 0)), none⟩]) (.cond (.t 18) (.reg false [
      ⟨some 20, .ldf 3 0 7 true, none⟩,
      ⟨some 21, .ldf 4 0 4 true, none⟩,
      ⟨some 22, .call 68 [.t 20, .t 21], none⟩,
      ⟨some 19, .mov (.t 22), none⟩,
      ⟨some 23, .ext (.t 19) 0, none⟩,
      ⟨some 24, .ext (.t 19) 1, none⟩,
      ⟨none, .stf 10 0 7 (.t 23), none⟩,
      ⟨some 9, .mov (.t 24), none⟩]) (.skip))) (.seq (.seq (.reg false [
      ⟨some 25, .mov (.t 9), none⟩,
      ⟨some 26, .bin .eql (.t 25) (.c (.int .i64 0)), none⟩]) (.cond (.t 26) (.reg false [
      ⟨some 27, .ldf 3 0 7 true, none⟩,
      ⟨some 28, .ldf 10 0 7 true, none⟩,
      ⟨some 29, .mov (.t 2), none⟩,
      ⟨some 30, .call 82 [.t 27, .t 28, .t 29], none⟩,
      ⟨some 9, .mov (.t 30), none⟩]) (.skip))) (.seq (.seq (.reg false [
      ⟨some 31, .mov (.t 9), none⟩,
      ⟨some 32, .bin .neq (.t 31) (.c (.int .i64 0)), none⟩]) (.cond (.t 32) (.seq (.reg false [
      ⟨some 33, .mkst [.str [], .int .i64 0, .sl true 6 [], .int .i64 0, .sl true 2 [], .int .i64 0, .int .i64 0] [], none⟩,
      ⟨some 34, .mkst [.int .i64 0, .str [], .int .i64 0, .sl true 4 []] [], none⟩,
      ⟨some 35, .mov (.t 9), none⟩,
      ⟨none, .stf 6 0 7 (.t 33), none⟩,
      ⟨none, .stf 7 0 4 (.t 34), none⟩,
      ⟨some 8, .mov (.t 35), none⟩]) (.ret)) (.skip))) (.seq (.reg false [
      ⟨some 36, .ldf 3 0 7 true, none⟩,
      ⟨some 37, .mov (.t 2), none⟩,
      ⟨some 38, .call 86 [.t 36, .t 37], none⟩,
      ⟨some 11, .alloc [.str [], .int .i64 0, .sl true 6 [], .int .i64 0, .sl true 2 [], .int .i64 0, .int .i64 0], none⟩,
      ⟨none, .stf 11 0 7 (.t 38), none⟩]) (.seq (.reg false [
      ⟨some 40, .ldf 3 0 7 true, none⟩,
      ⟨some 41, .fad 10 5, none⟩,
      ⟨some 42, .ldf 10 5 1 false, none⟩,
      ⟨some 43, .call 83 [.t 40, .t 42], none⟩,
      ⟨some 39, .mov (.t 43), none⟩,
      ⟨some 44, .ext (.t 39) 0, none⟩,
      ⟨some 45, .ext (.t 39) 1, none⟩,
      ⟨some 12, .mov (.t 44), none⟩,
      ⟨some 13, .mov (.t 45), none⟩]) (.seq (.reg false [
      ⟨some 46, .fad 11 4, none⟩,
      ⟨some 47, .ldf 11 4 1 false, none⟩,
      ⟨some 48, .mov (.t 12), none⟩,
      ⟨some 49, .fad 10 5, none⟩,
      ⟨some 50, .ldf 10 5 1 false, none⟩,
      ⟨some 51, .fad 10 6, none⟩,
      ⟨some 52, .ldf 10 6 1 false, none⟩,
      ⟨some 53, .mkst [.int .i64 0, .int .i64 0] [(0, 1, .t 50), (1, 1, .t 52)], none⟩,
      ⟨some 54, .mksl 2 [.t 53], none⟩,
      ⟨some 55, .call 141 [.t 47, .t 48, .t 54], none⟩,
      ⟨some 56, .fad 11 4, none⟩,
      ⟨none, .stfm 11 4 55, none⟩]) (.seq (.reg true [
      ⟨some 57, .ldf 11 0 7 true, none⟩,
      ⟨some 58, .fad 10 1, none⟩,
      ⟨some 59, .ldf 10 1 4 true, none⟩,
      ⟨none, .stf 6 0 7 (.t 57), none⟩,
      ⟨none, .stf 7 0 4 (.t 59), none⟩,
      ⟨some 8, .mov (.c (.int .i64 0)), none⟩]) (.ret))))))))))

def ticket_Resume : AFun := { nparams := 3, ntmps := 60, res := [.cell 6 7 true, .cell 7 4 true, .tmp 8], keep := false, body := ticket_Resume_b }
theorem ticket_Resume_body : ticket_Resume.body = ticket_Resume_b := rfl
theorem ticket_Resume_res : ticket_Resume.res = [.cell 6 7 true, .cell 7 4 true, .tmp 8] := rfl
theorem ticket_Resume_keep : ticket_Resume.keep = false := rfl

/-- sealring/ticket.Read : 68 -/
def ticket_Read_b : AC :=
  .seq (.reg false [
      ⟨some 2, .box (.t 0), none⟩,
      ⟨some 3, .box (.t 1), none⟩,
      ⟨some 4, .alloc [.str [], .int .i64 0, .str [], .int .i64 0, .sl true 4 [], .int .i64 0, .int .i64 0], none⟩,
      ⟨some 5, .mov (.c (.int .i64 0)), none⟩]) (.seq (.seq (.reg false [
      ⟨some 10, .ldf 2 0 7 true, none⟩,
      ⟨some 11, .call 27 [.t 10], none⟩,
      ⟨some 6, .mov (.t 11), none⟩]) (.seq (.reg false [
      ⟨some 12, .mov (.t 6), none⟩,
      ⟨some 13, .bin .neq (.t 12) (.c (.int .i64 0)), none⟩]) (.cond (.t 13) (.seq (.reg false [
      ⟨some 14, .mkst [.str [], .int .i64 0, .str [], .int .i64 0, .sl true 4 [], .int .i64 0, .int .i64 0] [], none⟩,
      ⟨some 15, .mov (.t 6), none⟩,
      ⟨none, .stf 4 0 7 (.t 14), none⟩,
      ⟨some 5, .mov (.t 15), none⟩]) (.ret)) (.skip)))) (.seq (.reg false [
      ⟨some 17, .ldf 3 0 4 true, none⟩,
      ⟨some 18, .call 69 [.t 17], none⟩,
      ⟨some 16, .mov (.t 18), none⟩,
      ⟨some 19, .ext (.t 16) 0, none⟩,
      ⟨some 20, .ext (.t 16) 1, none⟩,
      ⟨some 21, .ext (.t 16) 2, none⟩,
      ⟨some 7, .alloc [.str [], .int .i64 0, .str [], .int .i64 0, .sl true 4 [], .int .i64 0, .int .i64 0], none⟩,
      ⟨some 8, .galloc [.int .i64 0, .str [], .int .i64 0, .sl true 4 []], none⟩,
      ⟨none, .stf 7 0 7 (.t 19), none⟩,
      ⟨none, .st 8 4 (.t 20), none⟩,
      ⟨some 9, .mov (.t 21), none⟩]) (.seq (.block 0 (.seq (.reg false [
      ⟨some 23, .mov (.t 9), none⟩,
      ⟨some 24, .un .not (.t 23), none⟩,
      ⟨some 22, .mov (.t 24), none⟩]) (.cond (.t 22) (.seq (.reg false [
      ⟨some 25, .mkst [.str [], .int .i64 0, .str [], .int .i64 0, .sl true 4 [], .int .i64 0, .int .i64 0] [], none⟩,
      ⟨none, .stf 4 0 7 (.t 25), none⟩,
      ⟨some 5, .mov (.c (.int .i64 10)), none⟩]) (.ret)) (.seq (.reg false [
      ⟨some 27, .fad 2 2, none⟩,
      ⟨some 28, .ldf 2 2 1 false, none⟩,
      ⟨some 29, .mkfn 79 [.t 8], none⟩,
      ⟨some 30, .call 80 [.t 28, .t 29], none⟩,
      ⟨some 31, .un .not (.t 30), none⟩,
      ⟨some 26, .mov (.t 31), none⟩]) (.cond (.t 26) (.seq (.reg false [
      ⟨some 32, .mkst [.str [], .int .i64 0, .str [], .int .i64 0, .sl true 4 [], .int .i64 0, .int .i64 0] [], none⟩,
      ⟨none, .stf 4 0 7 (.t 32), none⟩,
      ⟨some 5, .mov (.c (.int .i64 4)), none⟩]) (.ret)) (.skip)))))) (.seq (.reg false [
      ⟨some 33, .ldf 7 0 7 true, none⟩,
      ⟨none, .stf 4 0 7 (.t 33), none⟩,
      ⟨some 5, .mov (.c (.int .i64 0)), none⟩]) (.ret)))))

def ticket_Read : AFun := { nparams := 2, ntmps := 34, res := [.cell 4 7 true, .tmp 5], keep := false, body := ticket_Read_b }
theorem ticket_Read_body : ticket_Read.body = ticket_Read_b := rfl
theorem ticket_Read_res : ticket_Read.res = [.cell 4 7 true, .tmp 5] := rfl
theorem ticket_Read_keep : ticket_Read.keep = false := rfl

/-- sealring/ticket.parts : 69 -/
def ticket_parts_b : AC :=
  .seq (.reg false [
      ⟨some 1, .box (.t 0), none⟩,
      ⟨some 2, .alloc [.str [], .int .i64 0, .str [], .int .i64 0, .sl true 4 [], .int .i64 0, .int .i64 0], none⟩,
      ⟨some 3, .alloc [.int .i64 0, .str [], .int .i64 0, .sl true 4 []], none⟩,
      ⟨some 4, .mov (.c (.bool false)), none⟩]) (.seq (.seq (.reg false [
      ⟨some 10, .ldf 1 0 4 true, none⟩,
      ⟨some 11, .call 41 [.t 10], none⟩,
      ⟨some 12, .bin .neq (.t 11) (.c (.int .i64 0)), none⟩,
      ⟨some 13, .mov (.t 12), none⟩,
      ⟨some 14, .fad 1 0, some (13, false)⟩,
      ⟨some 15, .ldf 1 0 1 false, some (13, false)⟩,
      ⟨some 16, .bin .neq (.t 15) (.c (.int .i64 3)), some (13, false)⟩,
      ⟨some 17, .pick (.t 13) (.c (.bool true)) (.t 16), none⟩,
      ⟨some 18, .mov (.t 17), none⟩,
      ⟨some 19, .fad 1 1, some (18, false)⟩,
      ⟨some 20, .ldf 1 1 1 false, some (18, false)⟩,
      ⟨some 21, .bin .neq (.t 20) (.c (.str [101, 110, 99])), some (18, false)⟩,
      ⟨some 22, .pick (.t 18) (.c (.bool true)) (.t 21), none⟩]) (.cond (.t 22) (.seq (.reg false [
      ⟨some 23, .mkst [.str [], .int .i64 0, .str [], .int .i64 0, .sl true 4 [], .int .i64 0, .int .i64 0] [], none⟩,
      ⟨some 24, .mkst [.int .i64 0, .str [], .int .i64 0, .sl true 4 []] [], none⟩,
      ⟨none, .stf 2 0 7 (.t 23), none⟩,
      ⟨none, .stf 3 0 4 (.t 24), none⟩,
      ⟨some 4, .mov (.c (.bool false)), none⟩]) (.ret)) (.skip))) (.seq (.reg false [
      ⟨some 25, .fad 1 3, none⟩,
      ⟨some 26, .ldf 1 3 1 false, none⟩,
      ⟨some 27, .idxa 4 (.t 26) (.c (.int .i64 0)), none⟩,
      ⟨some 28, .ld 27 4 true, none⟩,
      ⟨some 29, .call 70 [.t 28], none⟩,
      ⟨some 5, .mvs 29, none⟩]) (.seq (.seq (.reg false [
      ⟨some 30, .mov (.t 5), none⟩,
      ⟨some 31, .lenl (.t 30), none⟩,
      ⟨some 32, .bin .neq (.t 31) (.c (.int .i64 4)), none⟩,
      ⟨some 33, .mov (.t 32), none⟩,
      ⟨some 34, .mov (.t 5), some (33, false)⟩,
      ⟨some 35, .idxa 4 (.t 34) (.c (.int .i64 0)), some (33, false)⟩,
      ⟨some 36, .fadr 35 0, some (33, false)⟩,
      ⟨some 37, .ld 36 1 false, some (33, false)⟩,
      ⟨some 38, .bin .neq (.t 37) (.c (.int .i64 2)), some (33, false)⟩,
      ⟨some 39, .pick (.t 33) (.c (.bool true)) (.t 38), none⟩,
      ⟨some 40, .mov (.t 39), none⟩,
      ⟨some 41, .mov (.t 5), some (40, false)⟩,
      ⟨some 42, .idxa 4 (.t 41) (.c (.int .i64 0)), some (40, false)⟩,
      ⟨some 43, .fadr 42 2, some (40, false)⟩,
      ⟨some 44, .ld 43 1 false, some (40, false)⟩,
      ⟨some 45, .bin .neq (.t 44) (.c (.int .i64 1)), some (40, false)⟩,
      ⟨some 46, .pick (.t 40) (.c (.bool true)) (.t 45), none⟩,
      ⟨some 47, .mov (.t 46), none⟩,
      ⟨some 48, .mov (.t 5), some (47, false)⟩,
      ⟨some 49, .idxa 4 (.t 48) (.c (.int .i64 1)), some (47, false)⟩,
      ⟨some 50, .fadr 49 0, some (47, false)⟩,
      ⟨some 51, .ld 50 1 false, some (47, false)⟩,
      ⟨some 52, .bin .neq (.t 51) (.c (.int .i64 2)), some (47, false)⟩,
      ⟨some 53, .pick (.t 47) (.c (.bool true)) (.t 52), none⟩,
      ⟨some 54, .mov (.t 53), none⟩,
      ⟨some 55, .mov (.t 5), some (54, false)⟩,
      ⟨some 56, .idxa 4 (.t 55) (.c (.int .i64 1)), some (54, false)⟩,
      ⟨some 57, .fadr 56 2, some (54, false)⟩,
      ⟨some 58, .ld 57 1 false, some (54, false)⟩,
      ⟨some 59, .bin .neq (.t 58) (.c (.int .i64 3)), some (54, false)⟩,
      ⟨some 60, .pick (.t 54) (.c (.bool true)) (.t 59), none⟩]) (.cond (.t 60) (.seq (.reg false [
      ⟨some 61, .mkst [.str [], .int .i64 0, .str [], .int .i64 0, .sl true 4 [], .int .i64 0, .int .i64 0] [], none⟩,
      ⟨some 62, .mkst [.int .i64 0, .str [], .int .i64 0, .sl true 4 []] [], none⟩,
      ⟨none, .stf 2 0 7 (.t 61), none⟩,
      ⟨none, .stf 3 0 4 (.t 62), none⟩,
      ⟨some 4, .mov (.c (.bool false)), none⟩]) (.ret)) (.skip))) (.seq (.reg false [
      ⟨some 64, .mov (.t 5), none⟩,
      ⟨some 65, .idxa 4 (.t 64) (.c (.int .i64 2)), none⟩,
      ⟨some 66, .ld 65 4 true, none⟩,
      ⟨some 67, .call 72 [.t 66], none⟩,
      ⟨some 63, .mov (.t 67), none⟩,
      ⟨some 68, .ext (.t 63) 0, none⟩,
      ⟨some 69, .ext (.t 63) 1, none⟩,
      ⟨some 6, .mov (.t 68), none⟩,
      ⟨some 7, .mov (.t 69), none⟩]) (.seq (.reg false [
      ⟨some 71, .mov (.t 5), none⟩,
      ⟨some 72, .idxa 4 (.t 71) (.c (.int .i64 3)), none⟩,
      ⟨some 73, .ld 72 4 true, none⟩,
      ⟨some 74, .call 72 [.t 73], none⟩,
      ⟨some 70, .mov (.t 74), none⟩,
      ⟨some 75, .ext (.t 70) 0, none⟩,
      ⟨some 76, .ext (.t 70) 1, none⟩,
      ⟨some 8, .mov (.t 75), none⟩,
      ⟨some 9, .mov (.t 76), none⟩]) (.seq (.reg true [
      ⟨some 77, .mov (.t 5), none⟩,
      ⟨some 78, .idxa 4 (.t 77) (.c (.int .i64 0)), none⟩,
      ⟨some 79, .fadr 78 1, none⟩,
      ⟨some 80, .ld 79 1 false, none⟩,
      ⟨some 81, .mov (.t 5), none⟩,
      ⟨some 82, .idxa 4 (.t 81) (.c (.int .i64 1)), none⟩,
      ⟨some 83, .ld 82 4 true, none⟩,
      ⟨some 84, .mov (.t 6), none⟩,
      ⟨some 85, .mov (.t 8), none⟩,
      ⟨some 86, .mkst [.str [], .int .i64 0, .str [], .int .i64 0, .sl true 4 [], .int .i64 0, .int .i64 0] [(0, 1, .t 80), (1, 4, .t 83), (5, 1, .t 84), (6, 1, .t 85)], none⟩,
      ⟨some 87, .fad 1 3, none⟩,
      ⟨some 88, .ldf 1 3 1 false, none⟩,
      ⟨some 89, .idxa 4 (.t 88) (.c (.int .i64 1)), none⟩,
      ⟨some 90, .ld 89 4 true, none⟩,
      ⟨some 91, .mov (.t 7), none⟩,
      ⟨some 92, .mov (.t 91), none⟩,
      ⟨some 93, .mov (.t 9), some (92, true)⟩,
      ⟨some 94, .pick (.t 92) (.t 93) (.c (.bool false)), none⟩,
      ⟨none, .stf 2 0 7 (.t 86), none⟩,
      ⟨none, .stf 3 0 4 (.t 90), none⟩,
      ⟨some 4, .mov (.t 94), none⟩]) (.ret)))))))

def ticket_parts : AFun := { nparams := 1, ntmps := 95, res := [.cell 2 7 true, .cell 3 4 true, .tmp 4], keep := false, body := ticket_parts_b }
theorem ticket_parts_body : ticket_parts.body = ticket_parts_b := rfl
theorem ticket_parts_res : ticket_parts.res = [.cell 2 7 true, .cell 3 4 true, .tmp 4] := rfl
theorem ticket_parts_keep : ticket_parts.keep = false := rfl

def theory_Untuple_l0 : AC :=
  .seq (.seq (.reg false [
      ⟨some 4, .ldf 1 0 4 true, none⟩,
      ⟨some 5, .call 71 [.t 4, .c (.str [112, 97, 105, 114])], none⟩,
      ⟨some 6, .mov (.t 5), none⟩,
      ⟨some 7, .fad 1 3, some (6, true)⟩,
      ⟨some 8, .ldf 1 3 1 false, some (6, true)⟩,
      ⟨some 9, .lenl (.t 8), some (6, true)⟩,
      ⟨some 10, .bin .eql (.t 9) (.c (.int .i64 2)), some (6, true)⟩,
      ⟨some 11, .pick (.t 6) (.t 10) (.c (.bool false)), none⟩]) (.cond (.t 11) (.skip) (.exit 0))) (.block 1 (.seq (.reg false [
      ⟨some 12, .mvs 3, none⟩,
      ⟨some 13, .fad 1 3, none⟩,
      ⟨some 14, .ldf 1 3 1 false, none⟩,
      ⟨some 15, .idxa 4 (.t 14) (.c (.int .i64 0)), none⟩,
      ⟨some 16, .ld 15 4 true, none⟩,
      ⟨some 17, .call 46 [.t 16], none⟩,
      ⟨some 18, .mksl 4 [.t 17], none⟩,
      ⟨some 19, .app 56 4 (.t 12) (.t 18), none⟩,
      ⟨some 3, .mvs 19, none⟩]) (.reg false [
      ⟨some 20, .fad 1 3, none⟩,
      ⟨some 21, .ldf 1 3 1 false, none⟩,
      ⟨some 22, .idxa 4 (.t 21) (.c (.int .i64 1)), none⟩,
      ⟨some 23, .ld 22 4 true, none⟩,
      ⟨none, .stf 1 0 4 (.t 23), none⟩])))

def theory_Untuple_r0 : AC :=
  .seq (.reg false [
      ⟨some 24, .mvs 3, none⟩,
      ⟨some 25, .ldf 1 0 4 true, none⟩,
      ⟨some 26, .call 46 [.t 25], none⟩,
      ⟨some 27, .mksl 4 [.t 26], none⟩,
      ⟨some 28, .app 56 4 (.t 24) (.t 27), none⟩,
      ⟨some 2, .mvs 28, none⟩]) (.ret)

/-- sealring/theory.Untuple : 70 -/
def theory_Untuple_b : AC :=
  .seq (.reg false [
      ⟨some 1, .box (.t 0), none⟩,
      ⟨some 2, .mov (.c (.sl true 4 [])), none⟩]) (.seq (.reg false [
      ⟨some 3, .mov (.c (.sl true 4 [])), none⟩]) (.seq (.block 0 (.loop (theory_Untuple_l0))) (theory_Untuple_r0)))

def theory_Untuple : AFun := { nparams := 1, ntmps := 29, res := [.tmp 2], keep := false, body := theory_Untuple_b }
theorem theory_Untuple_body : theory_Untuple.body = theory_Untuple_b := rfl
theorem theory_Untuple_res : theory_Untuple.res = [.tmp 2] := rfl
theorem theory_Untuple_keep : theory_Untuple.keep = false := rfl

/-- sealring/theory.is : 71 -/
def theory_is_b : AC :=
  .seq (.reg false [
      ⟨some 2, .box (.t 0), none⟩,
      ⟨some 4, .mov (.c (.bool false)), none⟩]) (.seq (.reg false [
      ⟨some 5, .fad 2 0, none⟩,
      ⟨some 6, .ldf 2 0 1 false, none⟩,
      ⟨some 7, .bin .eql (.t 6) (.c (.int .i64 3)), none⟩,
      ⟨some 8, .mov (.t 7), none⟩,
      ⟨some 9, .fad 2 1, some (8, true)⟩,
      ⟨some 10, .ldf 2 1 1 false, some (8, true)⟩,
      ⟨some 11, .mov (.t 1), some (8, true)⟩,
      ⟨some 12, .bin .eql (.t 10) (.t 11), some (8, true)⟩,
      ⟨some 13, .pick (.t 8) (.t 12) (.c (.bool false)), none⟩,
      ⟨some 4, .mov (.t 13), none⟩]) (.ret))

def theory_is : AFun := { nparams := 2, ntmps := 14, res := [.tmp 4], keep := false, body := theory_is_b }
theorem theory_is_body : theory_is.body = theory_is_b := rfl
theorem theory_is_res : theory_is.res = [.tmp 4] := rfl
theorem theory_is_keep : theory_is.keep = false := rfl

/-- sealring/ticket.read : 72 -/
def ticket_read_b : AC :=
  .seq (.reg false [
      ⟨some 1, .box (.t 0), none⟩,
      ⟨some 2, .mov (.c (.int .i64 0)), none⟩,
      ⟨some 3, .mov (.c (.bool false)), none⟩]) (.seq (.reg false [
      ⟨some 9, .fad 1 1, none⟩,
      ⟨some 10, .ldf 1 1 1 false, none⟩,
      ⟨some 11, .call 73 [.t 10, .c (.str [110, 35])], none⟩,
      ⟨some 8, .mov (.t 11), none⟩,
      ⟨some 12, .ext (.t 8) 0, none⟩,
      ⟨some 13, .ext (.t 8) 1, none⟩,
      ⟨some 4, .mov (.t 12), none⟩,
      ⟨some 5, .mov (.t 13), none⟩]) (.seq (.reg false [
      ⟨some 15, .mov (.t 4), none⟩,
      ⟨some 16, .call 76 [.t 15], none⟩,
      ⟨some 14, .mov (.t 16), none⟩,
      ⟨some 17, .ext (.t 14) 0, none⟩,
      ⟨some 18, .ext (.t 14) 1, none⟩,
      ⟨some 6, .mov (.t 17), none⟩,
      ⟨some 7, .mov (.t 18), none⟩]) (.seq (.reg true [
      ⟨some 19, .mov (.t 6), none⟩,
      ⟨some 20, .mov (.t 5), none⟩,
      ⟨some 21, .mov (.t 20), none⟩,
      ⟨some 22, .mov (.t 7), some (21, true)⟩,
      ⟨some 23, .eqn false (.t 22), some (21, true)⟩,
      ⟨some 24, .pick (.t 21) (.t 23) (.c (.bool false)), none⟩,
      ⟨some 25, .mov (.t 24), none⟩,
      ⟨some 26, .mov (.t 6), some (25, true)⟩,
      ⟨some 27, .call 16 [.t 26, .c (.int .i64 0), .c (.int .i64 1000000)], some (25, true)⟩,
      ⟨some 28, .pick (.t 25) (.t 27) (.c (.bool false)), none⟩,
      ⟨some 29, .mov (.t 28), none⟩,
      ⟨some 30, .ldf 1 0 4 true, some (29, true)⟩,
      ⟨some 31, .mov (.t 6), some (29, true)⟩,
      ⟨some 32, .call 39 [.t 31], some (29, true)⟩,
      ⟨some 33, .call 29 [.t 30, .t 32], some (29, true)⟩,
      ⟨some 34, .pick (.t 29) (.t 33) (.c (.bool false)), none⟩,
      ⟨some 2, .mov (.t 19), none⟩,
      ⟨some 3, .mov (.t 34), none⟩]) (.ret))))

def ticket_read : AFun := { nparams := 1, ntmps := 35, res := [.tmp 2, .tmp 3], keep := false, body := ticket_read_b }
theorem ticket_read_body : ticket_read.body = ticket_read_b := rfl
theorem ticket_read_res : ticket_read.res = [.tmp 2, .tmp 3] := rfl
theorem ticket_read_keep : ticket_read.keep = false := rfl

/-- strings.CutPrefix : 73 -/
def strings_CutPrefix_b : AC :=
  .seq (.reg false [
      ⟨some 4, .mov (.c (.str [])), none⟩,
      ⟨some 5, .mov (.c (.bool false)), none⟩]) (.seq (.reg false [
      ⟨some 6, .mov (.t 0), none⟩,
      ⟨some 7, .mov (.t 1), none⟩,
      ⟨some 8, .call 74 [.t 6, .t 7], none⟩,
      ⟨some 9, .ext (.t 8) 0, none⟩,
      ⟨some 10, .ext (.t 8) 1, none⟩,
      ⟨some 4, .mov (.t 9), none⟩,
      ⟨some 5, .mov (.t 10), none⟩]) (.ret))

def strings_CutPrefix : AFun := { nparams := 2, ntmps := 11, res := [.tmp 4, .tmp 5], keep := false, body := strings_CutPrefix_b }
theorem strings_CutPrefix_body : strings_CutPrefix.body = strings_CutPrefix_b := rfl
theorem strings_CutPrefix_res : strings_CutPrefix.res = [.tmp 4, .tmp 5] := rfl
theorem strings_CutPrefix_keep : strings_CutPrefix.keep = false := rfl

/-- internal/stringslite.CutPrefix : 74 -/
def internal_stringslite_CutPrefix_b : AC :=
  .seq (.reg false [
      ⟨some 4, .mov (.c (.str [])), none⟩,
      ⟨some 5, .mov (.c (.bool false)), none⟩]) (.seq (.seq (.reg false [
      ⟨some 6, .mov (.t 0), none⟩,
      ⟨some 7, .mov (.t 1), none⟩,
      ⟨some 8, .call 75 [.t 6, .t 7], none⟩,
      ⟨some 9, .un .not (.t 8), none⟩]) (.cond (.t 9) (.seq (.reg false [
      ⟨some 10, .mov (.t 0), none⟩,
      ⟨some 4, .mov (.t 10), none⟩,
      ⟨some 5, .mov (.c (.bool false)), none⟩]) (.ret)) (.skip))) (.seq (.reg false [
      ⟨some 11, .mov (.t 0), none⟩,
      ⟨some 12, .mov (.t 1), none⟩,
      ⟨some 13, .lens (.t 12), none⟩,
      ⟨some 14, .slcs (.t 11) (some (.t 13)) none, none⟩,
      ⟨some 4, .mov (.t 14), none⟩,
      ⟨some 5, .mov (.c (.bool true)), none⟩]) (.ret)))

def internal_stringslite_CutPrefix : AFun := { nparams := 2, ntmps := 15, res := [.tmp 4, .tmp 5], keep := false, body := internal_stringslite_CutPrefix_b }
theorem internal_stringslite_CutPrefix_body : internal_stringslite_CutPrefix.body = internal_stringslite_CutPrefix_b := rfl
theorem internal_stringslite_CutPrefix_res : internal_stringslite_CutPrefix.res = [.tmp 4, .tmp 5] := rfl
theorem internal_stringslite_CutPrefix_keep : internal_stringslite_CutPrefix.keep = false := rfl

/-- internal/stringslite.HasPrefix : 75 -/
def internal_stringslite_HasPrefix_b : AC :=
  .seq (.reg false [
      ⟨some 4, .mov (.c (.bool false)), none⟩]) (.seq (.reg false [
      ⟨some 5, .mov (.t 0), none⟩,
      ⟨some 6, .lens (.t 5), none⟩,
      ⟨some 7, .mov (.t 1), none⟩,
      ⟨some 8, .lens (.t 7), none⟩,
      ⟨some 9, .bin .geq (.t 6) (.t 8), none⟩,
      ⟨some 10, .mov (.t 9), none⟩,
      ⟨some 11, .mov (.t 0), some (10, true)⟩,
      ⟨some 12, .mov (.t 1), some (10, true)⟩,
      ⟨some 13, .lens (.t 12), some (10, true)⟩,
      ⟨some 14, .slcs (.t 11) none (some (.t 13)), some (10, true)⟩,
      ⟨some 15, .mov (.t 1), some (10, true)⟩,
      ⟨some 16, .bin .eql (.t 14) (.t 15), some (10, true)⟩,
      ⟨some 17, .pick (.t 10) (.t 16) (.c (.bool false)), none⟩,
      ⟨some 4, .mov (.t 17), none⟩]) (.ret))

def internal_stringslite_HasPrefix : AFun := { nparams := 2, ntmps := 18, res := [.tmp 4], keep := false, body := internal_stringslite_HasPrefix_b }
theorem internal_stringslite_HasPrefix_body : internal_stringslite_HasPrefix.body = internal_stringslite_HasPrefix_b := rfl
theorem internal_stringslite_HasPrefix_res : internal_stringslite_HasPrefix.res = [.tmp 4] := rfl
theorem internal_stringslite_HasPrefix_keep : internal_stringslite_HasPrefix.keep = false := rfl

/-- sealring/ticket.Read$1 : 79 -/
def ticket_Read_c1_b : AC :=
  .seq (.reg false [
      ⟨some 2, .box (.t 0), none⟩,
      ⟨some 3, .mov (.c (.bool false)), none⟩]) (.seq (.reg false [
      ⟨some 4, .fad 2 2, none⟩,
      ⟨some 5, .ldf 2 2 4 true, none⟩,
      ⟨some 6, .ldg 1 4 true, none⟩,
      ⟨some 7, .call 29 [.t 5, .t 6], none⟩,
      ⟨some 3, .mov (.t 7), none⟩]) (.ret))

def ticket_Read_c1 : AFun := { nparams := 2, ntmps := 8, res := [.tmp 3], keep := false, body := ticket_Read_c1_b }
theorem ticket_Read_c1_body : ticket_Read_c1.body = ticket_Read_c1_b := rfl
theorem ticket_Read_c1_res : ticket_Read_c1.res = [.tmp 3] := rfl
theorem ticket_Read_c1_keep : ticket_Read_c1.keep = false := rfl

/-- slices.ContainsFunc[[]sealring/api.Epoch,sealring/api.Epoch] : 80 -/
def slices_ContainsFunc_api_Epoch_api_Epoch_b : AC :=
  .seq (.reg false [
      ⟨some 4, .mov (.c (.bool false)), none⟩]) (.seq (.reg false [
      ⟨some 5, .mov (.t 0), none⟩,
      ⟨some 6, .mov (.t 1), none⟩,
      ⟨some 7, .call 81 [.t 5, .t 6], none⟩,
      ⟨some 8, .bin .geq (.t 7) (.c (.int .i64 0)), none⟩,
      ⟨some 4, .mov (.t 8), none⟩]) (.ret))

def slices_ContainsFunc_api_Epoch_api_Epoch : AFun := { nparams := 2, ntmps := 9, res := [.tmp 4], keep := false, body := slices_ContainsFunc_api_Epoch_api_Epoch_b }
theorem slices_ContainsFunc_api_Epoch_api_Epoch_body : slices_ContainsFunc_api_Epoch_api_Epoch.body = slices_ContainsFunc_api_Epoch_api_Epoch_b := rfl
theorem slices_ContainsFunc_api_Epoch_api_Epoch_res : slices_ContainsFunc_api_Epoch_api_Epoch.res = [.tmp 4] := rfl
theorem slices_ContainsFunc_api_Epoch_api_Epoch_keep : slices_ContainsFunc_api_Epoch_api_Epoch.keep = false := rfl

def slices_IndexFunc_api_Epoch_api_Epoch_l0 : AC :=
  .seq (.reg false [
      ⟨some 9, .bin .lss (.t 8) (.t 7), none⟩]) (.seq (.cond (.t 9) (.skip) (.exit 0)) (.seq (.block 1 (.seq (.reg false [
      ⟨some 10, .mov (.t 8), none⟩,
      ⟨some 5, .mov (.t 10), none⟩]) (.seq (.reg false [
      ⟨some 11, .mov (.t 1), none⟩,
      ⟨some 12, .mov (.t 0), none⟩,
      ⟨some 13, .mov (.t 5), none⟩,
      ⟨some 14, .idxa 6 (.t 12) (.t 13), none⟩,
      ⟨some 15, .ld 14 6 true, none⟩,
      ⟨some 16, .callv (.t 11) [.t 15], none⟩]) (.cond (.t 16) (.seq (.reg false [
      ⟨some 17, .mov (.t 5), none⟩,
      ⟨some 4, .mov (.t 17), none⟩]) (.ret)) (.skip))))) (.reg false [
      ⟨some 18, .bin .add (.t 8) (.c (.int .i64 1)), none⟩,
      ⟨some 8, .mov (.t 18), none⟩])))

def slices_IndexFunc_api_Epoch_api_Epoch_r0 : AC :=
  .seq (.reg false [
      ⟨some 4, .mov (.c (.int .i64 (-1))), none⟩]) (.ret)

/-- slices.IndexFunc[[]sealring/api.Epoch,sealring/api.Epoch] : 81 -/
def slices_IndexFunc_api_Epoch_api_Epoch_b : AC :=
  .seq (.reg false [
      ⟨some 4, .mov (.c (.int .i64 0)), none⟩]) (.seq (.seq (.reg false [
      ⟨some 6, .mov (.t 0), none⟩,
      ⟨some 7, .lenl (.t 6), none⟩,
      ⟨some 8, .mov (.c (.int .i64 0)), none⟩]) (.block 0 (.loop (slices_IndexFunc_api_Epoch_api_Epoch_l0)))) (slices_IndexFunc_api_Epoch_api_Epoch_r0))

def slices_IndexFunc_api_Epoch_api_Epoch : AFun := { nparams := 2, ntmps := 19, res := [.tmp 4], keep := false, body := slices_IndexFunc_api_Epoch_api_Epoch_b }
theorem slices_IndexFunc_api_Epoch_api_Epoch_body : slices_IndexFunc_api_Epoch_api_Epoch.body = slices_IndexFunc_api_Epoch_api_Epoch_b := rfl
theorem slices_IndexFunc_api_Epoch_api_Epoch_res : slices_IndexFunc_api_Epoch_api_Epoch.res = [.tmp 4] := rfl
theorem slices_IndexFunc_api_Epoch_api_Epoch_keep : slices_IndexFunc_api_Epoch_api_Epoch.keep = false := rfl

/-- sealring/ticket.accept : 82 -/
def ticket_accept_b : AC :=
  .seq (.reg false [
      ⟨some 3, .box (.t 0), none⟩,
      ⟨some 4, .box (.t 1), none⟩,
      ⟨some 6, .mov (.c (.int .i64 0)), none⟩]) (.seq (.reg false [
      ⟨some 10, .ldf 3 0 7 true, none⟩,
      ⟨some 11, .fad 4 5, none⟩,
      ⟨some 12, .ldf 4 5 1 false, none⟩,
      ⟨some 13, .call 83 [.t 10, .t 12], none⟩,
      ⟨some 9, .mov (.t 13), none⟩,
      ⟨some 14, .ext (.t 9) 0, none⟩,
      ⟨some 15, .ext (.t 9) 1, none⟩,
      ⟨some 7, .mov (.t 14), none⟩,
      ⟨some 8, .mov (.t 15), none⟩]) (.seq (.block 0 (.seq (.reg false [
      ⟨some 17, .fad 4 5, none⟩,
      ⟨some 18, .ldf 4 5 1 false, none⟩,
      ⟨some 19, .fad 3 3, none⟩,
      ⟨some 20, .ldf 3 3 1 false, none⟩,
      ⟨some 21, .bin .geq (.t 18) (.t 20), none⟩,
      ⟨some 16, .mov (.t 21), none⟩]) (.cond (.t 16) (.seq (.reg false [
      ⟨some 6, .mov (.c (.int .i64 22)), none⟩]) (.ret)) (.seq (.reg false [
      ⟨some 23, .mov (.t 2), none⟩,
      ⟨some 24, .fad 4 6, none⟩,
      ⟨some 25, .ldf 4 6 1 false, none⟩,
      ⟨some 26, .bin .gtr (.t 23) (.t 25), none⟩,
      ⟨some 22, .mov (.t 26), none⟩]) (.cond (.t 22) (.seq (.reg false [
      ⟨some 6, .mov (.c (.int .i64 20)), none⟩]) (.ret)) (.seq (.reg false [
      ⟨some 28, .mov (.t 8), none⟩,
      ⟨some 27, .mov (.t 28), none⟩]) (.cond (.t 27) (.seq (.reg false [
      ⟨some 6, .mov (.c (.int .i64 21)), none⟩]) (.ret)) (.seq (.reg false [
      ⟨some 30, .fad 3 4, none⟩,
      ⟨some 31, .ldf 3 4 1 false, none⟩,
      ⟨some 32, .lenl (.t 31), none⟩,
      ⟨some 33, .bin .eql (.t 32) (.c (.int .i64 200)), none⟩,
      ⟨some 29, .mov (.t 33), none⟩]) (.cond (.t 29) (.seq (.reg false [
      ⟨some 6, .mov (.c (.int .i64 3)), none⟩]) (.ret)) (.skip)))))))))) (.seq (.reg false [
      ⟨some 6, .mov (.c (.int .i64 0)), none⟩]) (.ret))))

def ticket_accept : AFun := { nparams := 3, ntmps := 34, res := [.tmp 6], keep := false, body := ticket_accept_b }
theorem ticket_accept_body : ticket_accept.body = ticket_accept_b := rfl
theorem ticket_accept_res : ticket_accept.res = [.tmp 6] := rfl
theorem ticket_accept_keep : ticket_accept.keep = false := rfl

/-- sealring/ticket.place : 83 -/
def ticket_place_b : AC :=
  .seq (.reg false [
      ⟨some 2, .box (.t 0), none⟩,
      ⟨some 4, .mov (.c (.int .i64 0)), none⟩,
      ⟨some 5, .mov (.c (.bool false)), none⟩]) (.seq (.reg false [
      ⟨some 6, .fad 2 4, none⟩,
      ⟨some 7, .ldf 2 4 1 false, none⟩,
      ⟨some 8, .mov (.t 1), none⟩,
      ⟨some 9, .call 85 [.t 7, .t 8, .c (.fn 84 [])], none⟩,
      ⟨some 10, .ext (.t 9) 0, none⟩,
      ⟨some 11, .ext (.t 9) 1, none⟩,
      ⟨some 4, .mov (.t 10), none⟩,
      ⟨some 5, .mov (.t 11), none⟩]) (.ret))

def ticket_place : AFun := { nparams := 2, ntmps := 12, res := [.tmp 4, .tmp 5], keep := false, body := ticket_place_b }
theorem ticket_place_body : ticket_place.body = ticket_place_b := rfl
theorem ticket_place_res : ticket_place.res = [.tmp 4, .tmp 5] := rfl
theorem ticket_place_keep : ticket_place.keep = false := rfl

/-- sealring/ticket.place$1 : 84 -/
def ticket_place_c1_b : AC :=
  .seq (.reg false [
      ⟨some 2, .box (.t 0), none⟩,
      ⟨some 4, .mov (.c (.int .i64 0)), none⟩]) (.seq (.reg false [
      ⟨some 5, .fad 2 0, none⟩,
      ⟨some 6, .ldf 2 0 1 false, none⟩,
      ⟨some 7, .mov (.t 1), none⟩,
      ⟨some 8, .bin .sub (.t 6) (.t 7), none⟩,
      ⟨some 4, .mov (.t 8), none⟩]) (.ret))

def ticket_place_c1 : AFun := { nparams := 2, ntmps := 9, res := [.tmp 4], keep := false, body := ticket_place_c1_b }
theorem ticket_place_c1_body : ticket_place_c1.body = ticket_place_c1_b := rfl
theorem ticket_place_c1_res : ticket_place_c1.res = [.tmp 4] := rfl
theorem ticket_place_c1_keep : ticket_place_c1.keep = false := rfl

def slices_BinarySearchFunc_api_Used_api_Used_int_l0 : AC :=
  .seq (.seq (.reg false [
      ⟨some 15, .mov (.t 9), none⟩,
      ⟨some 16, .mov (.t 10), none⟩,
      ⟨some 17, .bin .lss (.t 15) (.t 16), none⟩]) (.cond (.t 17) (.skip) (.exit 0))) (.block 1 (.seq (.reg false [
      ⟨some 18, .mov (.t 9), none⟩,
      ⟨some 19, .mov (.t 10), none⟩,
      ⟨some 20, .bin .add (.t 18) (.t 19), none⟩,
      ⟨some 21, .conv .u64 (.t 20), none⟩,
      ⟨some 22, .bin .shr (.t 21) (.c (.int .u64 1)), none⟩,
      ⟨some 23, .conv .i64 (.t 22), none⟩,
      ⟨some 11, .mov (.t 23), none⟩]) (.seq (.reg false [
      ⟨some 24, .mov (.t 2), none⟩,
      ⟨some 25, .mov (.t 0), none⟩,
      ⟨some 26, .mov (.t 11), none⟩,
      ⟨some 27, .idxa 2 (.t 25) (.t 26), none⟩,
      ⟨some 28, .ld 27 2 true, none⟩,
      ⟨some 29, .mov (.t 1), none⟩,
      ⟨some 30, .callv (.t 24) [.t 28, .t 29], none⟩,
      ⟨some 31, .bin .lss (.t 30) (.c (.int .i64 0)), none⟩]) (.cond (.t 31) (.reg false [
      ⟨some 32, .mov (.t 11), none⟩,
      ⟨some 33, .bin .add (.t 32) (.c (.int .i64 1)), none⟩,
      ⟨some 9, .mov (.t 33), none⟩]) (.reg false [
      ⟨some 34, .mov (.t 11), none⟩,
      ⟨some 10, .mov (.t 34), none⟩])))))

def slices_BinarySearchFunc_api_Used_api_Used_int_r0 : AC :=
  .seq (.reg false [
      ⟨some 35, .mov (.t 9), none⟩,
      ⟨some 36, .mov (.t 9), none⟩,
      ⟨some 37, .mov (.t 8), none⟩,
      ⟨some 38, .bin .lss (.t 36) (.t 37), none⟩,
      ⟨some 39, .mov (.t 38), none⟩,
      ⟨some 40, .mov (.t 2), some (39, true)⟩,
      ⟨some 41, .mov (.t 0), some (39, true)⟩,
      ⟨some 42, .mov (.t 9), some (39, true)⟩,
      ⟨some 43, .idxa 2 (.t 41) (.t 42), some (39, true)⟩,
      ⟨some 44, .ld 43 2 true, some (39, true)⟩,
      ⟨some 45, .mov (.t 1), some (39, true)⟩,
      ⟨some 46, .callv (.t 40) [.t 44, .t 45], some (39, true)⟩,
      ⟨some 47, .bin .eql (.t 46) (.c (.int .i64 0)), some (39, true)⟩,
      ⟨some 48, .pick (.t 39) (.t 47) (.c (.bool false)), none⟩,
      ⟨some 6, .mov (.t 35), none⟩,
      ⟨some 7, .mov (.t 48), none⟩]) (.ret)

/-- slices.BinarySearchFunc[[]sealring/api.Used,sealring/api.Used,int] : 85 -/
def slices_BinarySearchFunc_api_Used_api_Used_int_b : AC :=
  .seq (.reg false [
      ⟨some 6, .mov (.c (.int .i64 0)), none⟩,
      ⟨some 7, .mov (.c (.bool false)), none⟩]) (.seq (.reg false [
      ⟨some 12, .mov (.t 0), none⟩,
      ⟨some 13, .lenl (.t 12), none⟩,
      ⟨some 8, .mov (.t 13), none⟩]) (.seq (.reg false [
      ⟨some 14, .mov (.t 8), none⟩,
      ⟨some 9, .mov (.c (.int .i64 0)), none⟩,
      ⟨some 10, .mov (.t 14), none⟩]) (.seq (.block 0 (.loop (slices_BinarySearchFunc_api_Used_api_Used_int_l0))) (slices_BinarySearchFunc_api_Used_api_Used_int_r0))))

def slices_BinarySearchFunc_api_Used_api_Used_int : AFun := { nparams := 3, ntmps := 49, res := [.tmp 6, .tmp 7], keep := false, body := slices_BinarySearchFunc_api_Used_api_Used_int_b }
theorem slices_BinarySearchFunc_api_Used_api_Used_int_body : slices_BinarySearchFunc_api_Used_api_Used_int.body = slices_BinarySearchFunc_api_Used_api_Used_int_b := rfl
theorem slices_BinarySearchFunc_api_Used_api_Used_int_res : slices_BinarySearchFunc_api_Used_api_Used_int.res = [.tmp 6, .tmp 7] := rfl
theorem slices_BinarySearchFunc_api_Used_api_Used_int_keep : slices_BinarySearchFunc_api_Used_api_Used_int.keep = false := rfl

/-- sealring/ticket.copied@u : 86 -/
def ticket_copied_u_b : AC :=
  .seq (.reg false [
      ⟨some 2, .box (.t 0), none⟩,
      ⟨some 4, .alloc [.str [], .int .i64 0, .sl true 6 [], .int .i64 0, .sl true 2 [], .int .i64 0, .int .i64 0], none⟩]) (.seq (.reg true [
      ⟨some 5, .fad 2 2, none⟩,
      ⟨some 6, .ldf 2 2 1 false, none⟩,
      ⟨some 7, .call 51 [.t 6], none⟩,
      ⟨some 8, .fad 2 4, none⟩,
      ⟨some 9, .ldf 2 4 1 false, none⟩,
      ⟨some 10, .call 87 [.t 9], none⟩,
      ⟨some 11, .mov (.t 1), none⟩,
      ⟨some 12, .fad 2 2, none⟩,
      ⟨none, .stfm 2 2 7, none⟩,
      ⟨some 13, .fad 2 4, none⟩,
      ⟨none, .stf 2 4 1 (.t 10), none⟩,
      ⟨some 14, .fad 2 6, none⟩,
      ⟨none, .stf 2 6 1 (.t 11), none⟩]) (.seq (.reg false [
      ⟨some 15, .ldf 2 0 7 true, none⟩,
      ⟨none, .stf 4 0 7 (.t 15), none⟩]) (.ret)))

def ticket_copied_u : AFun := { nparams := 2, ntmps := 16, res := [.cell 4 7 true], keep := true, body := ticket_copied_u_b }
theorem ticket_copied_u_body : ticket_copied_u.body = ticket_copied_u_b := rfl
theorem ticket_copied_u_res : ticket_copied_u.res = [.cell 4 7 true] := rfl
theorem ticket_copied_u_keep : ticket_copied_u.keep = true := rfl

/-- sealring/sealringref01.Same : 89 -/
def sealringref01_Same_b : AC :=
  .seq (.reg false [
      ⟨some 2, .box (.t 0), none⟩,
      ⟨some 3, .box (.t 1), none⟩,
      ⟨some 4, .mov (.c (.bool false)), none⟩]) (.seq (.reg false [
      ⟨some 5, .ldf 2 0 4 true, none⟩,
      ⟨some 6, .ldf 3 0 4 true, none⟩,
      ⟨some 7, .call 90 [.t 5, .t 6], none⟩,
      ⟨some 8, .bin .eql (.t 7) (.c (.int .i64 0)), none⟩,
      ⟨some 4, .mov (.t 8), none⟩]) (.ret))

def sealringref01_Same : AFun := { nparams := 2, ntmps := 9, res := [.tmp 4], keep := false, body := sealringref01_Same_b }
theorem sealringref01_Same_body : sealringref01_Same.body = sealringref01_Same_b := rfl
theorem sealringref01_Same_res : sealringref01_Same.res = [.tmp 4] := rfl
theorem sealringref01_Same_keep : sealringref01_Same.keep = false := rfl

def sealringref01_Compare_l0 : AC :=
  .seq (.seq (.reg false [
      ⟨some 55, .mov (.t 9), none⟩,
      ⟨some 56, .fad 2 3, none⟩,
      ⟨some 57, .ldf 2 3 1 false, none⟩,
      ⟨some 58, .lenl (.t 57), none⟩,
      ⟨some 59, .bin .lss (.t 55) (.t 58), none⟩]) (.cond (.t 59) (.skip) (.exit 0))) (.seq (.block 1 (.seq (.reg true [
      ⟨some 62, .fad 2 3, none⟩,
      ⟨some 63, .ldf 2 3 1 false, none⟩,
      ⟨some 64, .mov (.t 9), none⟩,
      ⟨some 65, .idxa 4 (.t 63) (.t 64), none⟩,
      ⟨some 66, .ld 65 4 true, none⟩,
      ⟨some 67, .fad 3 3, none⟩,
      ⟨some 68, .ldf 3 3 1 false, none⟩,
      ⟨some 69, .mov (.t 9), none⟩,
      ⟨some 70, .idxa 4 (.t 68) (.t 69), none⟩,
      ⟨some 71, .ld 70 4 true, none⟩,
      ⟨some 72, .call 90 [.t 66, .t 71], none⟩,
      ⟨some 10, .mov (.t 72), none⟩]) (.seq (.reg false [
      ⟨some 73, .mov (.t 10), none⟩,
      ⟨some 74, .bin .neq (.t 73) (.c (.int .i64 0)), none⟩]) (.cond (.t 74) (.seq (.reg false [
      ⟨some 75, .mov (.t 10), none⟩,
      ⟨some 4, .mov (.t 75), none⟩]) (.ret)) (.skip))))) (.reg false [
      ⟨some 60, .mov (.t 9), none⟩,
      ⟨some 61, .bin .add (.t 60) (.c (.int .i64 1)), none⟩,
      ⟨some 9, .mov (.t 61), none⟩]))

def sealringref01_Compare_r0 : AC :=
  .seq (.reg false [
      ⟨some 4, .mov (.c (.int .i64 0)), none⟩]) (.ret)

/-- sealring/sealringref01.Compare : 90 -/
def sealringref01_Compare_b : AC :=
  .seq (.reg false [
      ⟨some 2, .box (.t 0), none⟩,
      ⟨some 3, .box (.t 1), none⟩,
      ⟨some 4, .mov (.c (.int .i64 0)), none⟩]) (.seq (.seq (.reg true [
      ⟨some 11, .ldf 2 0 4 true, none⟩,
      ⟨some 12, .call 60 [.t 11], none⟩,
      ⟨some 13, .ldf 3 0 4 true, none⟩,
      ⟨some 14, .call 60 [.t 13], none⟩,
      ⟨some 15, .call 91 [.t 12, .t 14], none⟩,
      ⟨some 5, .mov (.t 15), none⟩]) (.seq (.reg false [
      ⟨some 16, .mov (.t 5), none⟩,
      ⟨some 17, .bin .neq (.t 16) (.c (.int .i64 0)), none⟩]) (.cond (.t 17) (.seq (.reg false [
      ⟨some 18, .mov (.t 5), none⟩,
      ⟨some 4, .mov (.t 18), none⟩]) (.ret)) (.skip)))) (.seq (.seq (.reg false [
      ⟨some 19, .fad 2 0, none⟩,
      ⟨some 20, .ldf 2 0 1 false, none⟩,
      ⟨some 21, .fad 3 0, none⟩,
      ⟨some 22, .ldf 3 0 1 false, none⟩,
      ⟨some 23, .call 91 [.t 20, .t 22], none⟩,
      ⟨some 6, .mov (.t 23), none⟩]) (.seq (.reg false [
      ⟨some 24, .mov (.t 6), none⟩,
      ⟨some 25, .bin .neq (.t 24) (.c (.int .i64 0)), none⟩]) (.cond (.t 25) (.seq (.reg false [
      ⟨some 26, .mov (.t 6), none⟩,
      ⟨some 4, .mov (.t 26), none⟩]) (.ret)) (.skip)))) (.seq (.seq (.reg false [
      ⟨some 27, .fad 2 1, none⟩,
      ⟨some 28, .ldf 2 1 1 false, none⟩,
      ⟨some 29, .fad 3 1, none⟩,
      ⟨some 30, .ldf 3 1 1 false, none⟩,
      ⟨some 31, .bin .lss (.t 28) (.t 30), none⟩]) (.cond (.t 31) (.seq (.reg false [
      ⟨some 4, .mov (.c (.int .i64 (-1))), none⟩]) (.ret)) (.skip))) (.seq (.seq (.reg false [
      ⟨some 32, .fad 2 1, none⟩,
      ⟨some 33, .ldf 2 1 1 false, none⟩,
      ⟨some 34, .fad 3 1, none⟩,
      ⟨some 35, .ldf 3 1 1 false, none⟩,
      ⟨some 36, .bin .gtr (.t 33) (.t 35), none⟩]) (.cond (.t 36) (.seq (.reg false [
      ⟨some 4, .mov (.c (.int .i64 1)), none⟩]) (.ret)) (.skip))) (.seq (.seq (.reg false [
      ⟨some 37, .fad 2 2, none⟩,
      ⟨some 38, .ldf 2 2 1 false, none⟩,
      ⟨some 39, .fad 3 2, none⟩,
      ⟨some 40, .ldf 3 2 1 false, none⟩,
      ⟨some 41, .call 91 [.t 38, .t 40], none⟩,
      ⟨some 7, .mov (.t 41), none⟩]) (.seq (.reg false [
      ⟨some 42, .mov (.t 7), none⟩,
      ⟨some 43, .bin .neq (.t 42) (.c (.int .i64 0)), none⟩]) (.cond (.t 43) (.seq (.reg false [
      ⟨some 44, .mov (.t 7), none⟩,
      ⟨some 4, .mov (.t 44), none⟩]) (.ret)) (.skip)))) (.seq (.seq (.reg false [
      ⟨some 45, .fad 2 3, none⟩,
      ⟨some 46, .ldf 2 3 1 false, none⟩,
      ⟨some 47, .lenl (.t 46), none⟩,
      ⟨some 48, .fad 3 3, none⟩,
      ⟨some 49, .ldf 3 3 1 false, none⟩,
      ⟨some 50, .lenl (.t 49), none⟩,
      ⟨some 51, .call 91 [.t 47, .t 50], none⟩,
      ⟨some 8, .mov (.t 51), none⟩]) (.seq (.reg false [
      ⟨some 52, .mov (.t 8), none⟩,
      ⟨some 53, .bin .neq (.t 52) (.c (.int .i64 0)), none⟩]) (.cond (.t 53) (.seq (.reg false [
      ⟨some 54, .mov (.t 8), none⟩,
      ⟨some 4, .mov (.t 54), none⟩]) (.ret)) (.skip)))) (.seq (.seq (.reg false [
      ⟨some 9, .mov (.c (.int .i64 0)), none⟩]) (.block 0 (.loop (sealringref01_Compare_l0)))) (sealringref01_Compare_r0))))))))

def sealringref01_Compare : AFun := { nparams := 2, ntmps := 76, res := [.tmp 4], keep := false, body := sealringref01_Compare_b }
theorem sealringref01_Compare_body : sealringref01_Compare.body = sealringref01_Compare_b := rfl
theorem sealringref01_Compare_res : sealringref01_Compare.res = [.tmp 4] := rfl
theorem sealringref01_Compare_keep : sealringref01_Compare.keep = false := rfl

/-- sealring/sealringref01.number : 91 -/
def sealringref01_number_b : AC :=
  .seq (.reg false [
      ⟨some 4, .mov (.c (.int .i64 0)), none⟩]) (.seq (.seq (.reg false [
      ⟨some 5, .mov (.t 0), none⟩,
      ⟨some 6, .mov (.t 1), none⟩,
      ⟨some 7, .bin .lss (.t 5) (.t 6), none⟩]) (.cond (.t 7) (.seq (.reg false [
      ⟨some 4, .mov (.c (.int .i64 (-1))), none⟩]) (.ret)) (.skip))) (.seq (.seq (.reg false [
      ⟨some 8, .mov (.t 0), none⟩,
      ⟨some 9, .mov (.t 1), none⟩,
      ⟨some 10, .bin .gtr (.t 8) (.t 9), none⟩]) (.cond (.t 10) (.seq (.reg false [
      ⟨some 4, .mov (.c (.int .i64 1)), none⟩]) (.ret)) (.skip))) (.seq (.reg false [
      ⟨some 4, .mov (.c (.int .i64 0)), none⟩]) (.ret))))

def sealringref01_number : AFun := { nparams := 2, ntmps := 11, res := [.tmp 4], keep := false, body := sealringref01_number_b }
theorem sealringref01_number_body : sealringref01_number.body = sealringref01_number_b := rfl
theorem sealringref01_number_res : sealringref01_number.res = [.tmp 4] := rfl
theorem sealringref01_number_keep : sealringref01_number.keep = false := rfl

/-- sealring/ticket.Expire : 92 -/
def ticket_Expire_b : AC :=
  .seq (.reg false [
      ⟨some 2, .box (.t 0), none⟩,
      ⟨some 3, .gbox (.t 1), none⟩,
      ⟨some 4, .alloc [.str [], .int .i64 0, .sl true 6 [], .int .i64 0, .sl true 2 [], .int .i64 0, .int .i64 0], none⟩]) (.seq (.seq (.reg false [
      ⟨some 6, .ldf 2 0 7 true, none⟩,
      ⟨some 7, .ldg 3 1 false, none⟩,
      ⟨some 8, .call 26 [.t 6, .t 7], none⟩,
      ⟨some 9, .bin .neq (.t 8) (.c (.int .i64 0)), none⟩]) (.cond (.t 9) (.seq (.reg false [
      ⟨some 10, .ldf 2 0 7 true, none⟩,
      ⟨none, .stf 4 0 7 (.t 10), none⟩]) (.ret)) (.skip))) (.seq (.reg false [
      ⟨some 11, .ldf 2 0 7 true, none⟩,
      ⟨some 12, .ldg 3 1 false, none⟩,
      ⟨some 13, .call 93 [.t 11, .t 12], none⟩,
      ⟨some 5, .alloc [.str [], .int .i64 0, .sl true 6 [], .int .i64 0, .sl true 2 [], .int .i64 0, .int .i64 0], none⟩,
      ⟨none, .stf 5 0 7 (.t 13), none⟩]) (.seq (.reg false [
      ⟨some 14, .fad 5 2, none⟩,
      ⟨some 15, .ldf 5 2 1 false, none⟩,
      ⟨some 16, .mkfn 94 [.t 3], none⟩,
      ⟨some 17, .call 142 [.t 15, .t 16], none⟩,
      ⟨some 18, .fad 5 2, none⟩,
      ⟨none, .stfm 5 2 17, none⟩]) (.seq (.reg false [
      ⟨some 19, .fad 5 4, none⟩,
      ⟨some 20, .ldf 5 4 1 false, none⟩,
      ⟨some 21, .mkfn 96 [.t 3], none⟩,
      ⟨some 22, .call 144 [.t 20, .t 21], none⟩,
      ⟨some 23, .fad 5 4, none⟩,
      ⟨none, .stfm 5 4 22, none⟩]) (.seq (.reg false [
      ⟨some 24, .ldf 5 0 7 true, none⟩,
      ⟨none, .stf 4 0 7 (.t 24), none⟩]) (.ret))))))

def ticket_Expire : AFun := { nparams := 2, ntmps := 25, res := [.cell 4 7 true], keep := false, body := ticket_Expire_b }
theorem ticket_Expire_body : ticket_Expire.body = ticket_Expire_b := rfl
theorem ticket_Expire_res : ticket_Expire.res = [.cell 4 7 true] := rfl
theorem ticket_Expire_keep : ticket_Expire.keep = false := rfl

/-- sealring/ticket.copied@ku : 93 -/
def ticket_copied_ku_b : AC :=
  .seq (.reg false [
      ⟨some 2, .box (.t 0), none⟩,
      ⟨some 4, .alloc [.str [], .int .i64 0, .sl true 6 [], .int .i64 0, .sl true 2 [], .int .i64 0, .int .i64 0], none⟩]) (.seq (.reg true [
      ⟨some 5, .fad 2 2, none⟩,
      ⟨some 6, .ldf 2 2 1 false, none⟩,
      ⟨some 7, .call 66 [.t 6], none⟩,
      ⟨some 8, .fad 2 4, none⟩,
      ⟨some 9, .ldf 2 4 1 false, none⟩,
      ⟨some 10, .call 87 [.t 9], none⟩,
      ⟨some 11, .mov (.t 1), none⟩,
      ⟨some 12, .fad 2 2, none⟩,
      ⟨none, .stf 2 2 1 (.t 7), none⟩,
      ⟨some 13, .fad 2 4, none⟩,
      ⟨none, .stf 2 4 1 (.t 10), none⟩,
      ⟨some 14, .fad 2 6, none⟩,
      ⟨none, .stf 2 6 1 (.t 11), none⟩]) (.seq (.reg false [
      ⟨some 15, .ldf 2 0 7 true, none⟩,
      ⟨none, .stf 4 0 7 (.t 15), none⟩]) (.ret)))

def ticket_copied_ku : AFun := { nparams := 2, ntmps := 16, res := [.cell 4 7 true], keep := true, body := ticket_copied_ku_b }
theorem ticket_copied_ku_body : ticket_copied_ku.body = ticket_copied_ku_b := rfl
theorem ticket_copied_ku_res : ticket_copied_ku.res = [.cell 4 7 true] := rfl
theorem ticket_copied_ku_keep : ticket_copied_ku.keep = true := rfl

/-- sealring/ticket.Expire$1 : 94 -/
def ticket_Expire_c1_b : AC :=
  .seq (.reg false [
      ⟨some 2, .box (.t 0), none⟩,
      ⟨some 3, .mov (.c (.bool false)), none⟩]) (.seq (.reg false [
      ⟨some 4, .fad 2 1, none⟩,
      ⟨some 5, .ldf 2 1 1 false, none⟩,
      ⟨some 6, .bin .neq (.t 5) (.c (.int .i64 0)), none⟩,
      ⟨some 7, .mov (.t 6), none⟩,
      ⟨some 8, .fad 2 1, some (7, true)⟩,
      ⟨some 9, .ldf 2 1 1 false, some (7, true)⟩,
      ⟨some 10, .ldg 1 1 false, some (7, true)⟩,
      ⟨some 11, .bin .lss (.t 9) (.t 10), some (7, true)⟩,
      ⟨some 12, .pick (.t 7) (.t 11) (.c (.bool false)), none⟩,
      ⟨some 3, .mov (.t 12), none⟩]) (.ret))

def ticket_Expire_c1 : AFun := { nparams := 2, ntmps := 13, res := [.tmp 3], keep := false, body := ticket_Expire_c1_b }
theorem ticket_Expire_c1_body : ticket_Expire_c1.body = ticket_Expire_c1_b := rfl
theorem ticket_Expire_c1_res : ticket_Expire_c1.res = [.tmp 3] := rfl
theorem ticket_Expire_c1_keep : ticket_Expire_c1.keep = false := rfl

/-- sealring/ticket.Expire$2 : 96 -/
def ticket_Expire_c2_b : AC :=
  .seq (.reg false [
      ⟨some 2, .box (.t 0), none⟩,
      ⟨some 3, .mov (.c (.bool false)), none⟩]) (.seq (.reg false [
      ⟨some 4, .fad 2 1, none⟩,
      ⟨some 5, .ldf 2 1 1 false, none⟩,
      ⟨some 6, .ldg 1 1 false, none⟩,
      ⟨some 7, .bin .lss (.t 5) (.t 6), none⟩,
      ⟨some 3, .mov (.t 7), none⟩]) (.ret))

def ticket_Expire_c2 : AFun := { nparams := 2, ntmps := 8, res := [.tmp 3], keep := false, body := ticket_Expire_c2_b }
theorem ticket_Expire_c2_body : ticket_Expire_c2.body = ticket_Expire_c2_b := rfl
theorem ticket_Expire_c2_res : ticket_Expire_c2.res = [.tmp 3] := rfl
theorem ticket_Expire_c2_keep : ticket_Expire_c2.keep = false := rfl

def ticket_Knows_l0 : AC :=
  .seq (.reg false [
      ⟨some 13, .bin .lss (.t 12) (.t 11), none⟩]) (.seq (.cond (.t 13) (.skip) (.exit 0)) (.seq (.block 1 (.seq (.reg false [
      ⟨some 14, .idxa 6 (.t 10) (.t 12), none⟩,
      ⟨some 15, .ld 14 6 true, none⟩,
      ⟨some 5, .alloc [.int .i64 0, .int .i64 0, .int .i64 0, .str [], .int .i64 0, .sl true 4 []], none⟩,
      ⟨none, .stf 5 0 6 (.t 15), none⟩]) (.reg false [
      ⟨some 16, .mvs 3, none⟩,
      ⟨some 17, .fad 5 2, none⟩,
      ⟨some 18, .ldf 5 2 4 true, none⟩,
      ⟨some 19, .mksl 4 [.t 18], none⟩,
      ⟨some 20, .app 56 4 (.t 16) (.t 19), none⟩,
      ⟨some 3, .mvs 20, none⟩]))) (.reg false [
      ⟨some 21, .bin .add (.t 12) (.c (.int .i64 1)), none⟩,
      ⟨some 12, .mov (.t 21), none⟩])))

def ticket_Knows_r0 : AC :=
  .seq (.reg false [
      ⟨some 22, .mov (.t 3), none⟩,
      ⟨some 2, .mvs 22, none⟩]) (.ret)

/-- sealring/ticket.Knows : 99 -/
def ticket_Knows_b : AC :=
  .seq (.reg false [
      ⟨some 1, .box (.t 0), none⟩,
      ⟨some 2, .mov (.c (.sl true 4 [])), none⟩]) (.seq (.seq (.reg false [
      ⟨some 6, .ldf 1 0 7 true, none⟩,
      ⟨some 7, .call 27 [.t 6], none⟩,
      ⟨some 8, .bin .neq (.t 7) (.c (.int .i64 0)), none⟩]) (.cond (.t 8) (.seq (.reg false [
      ⟨some 2, .mov (.c (.sl true 4 [])), none⟩]) (.ret)) (.skip))) (.seq (.reg false [
      ⟨some 3, .mov (.c (.sl true 4 [])), none⟩]) (.seq (.seq (.reg false [
      ⟨some 9, .fad 1 2, none⟩,
      ⟨some 10, .ldf 1 2 1 false, none⟩,
      ⟨some 11, .lenl (.t 10), none⟩,
      ⟨some 12, .mov (.c (.int .i64 0)), none⟩]) (.block 0 (.loop (ticket_Knows_l0)))) (ticket_Knows_r0))))

def ticket_Knows : AFun := { nparams := 1, ntmps := 23, res := [.tmp 2], keep := false, body := ticket_Knows_b }
theorem ticket_Knows_body : ticket_Knows.body = ticket_Knows_b := rfl
theorem ticket_Knows_res : ticket_Knows.res = [.tmp 2] := rfl
theorem ticket_Knows_keep : ticket_Knows.keep = false := rfl

def sealringref54_Few_l0 : AC :=
  .seq (.seq (.reg false [
      ⟨some 5, .mov (.t 4), none⟩,
      ⟨some 6, .fad 1 2, none⟩,
      ⟨some 7, .ldf 1 2 1 false, none⟩,
      ⟨some 8, .lenl (.t 7), none⟩,
      ⟨some 9, .bin .lss (.t 5) (.t 8), none⟩]) (.cond (.t 9) (.skip) (.exit 0))) (.seq (.block 1 (.reg false [
      ⟨some 12, .mvs 3, none⟩,
      ⟨some 13, .fad 1 2, none⟩,
      ⟨some 14, .ldf 1 2 1 false, none⟩,
      ⟨some 15, .mov (.t 4), none⟩,
      ⟨some 16, .idxa 6 (.t 14) (.t 15), none⟩,
      ⟨some 17, .fadr 16 2, none⟩,
      ⟨some 18, .ld 17 4 true, none⟩,
      ⟨some 19, .mksl 4 [.t 18], none⟩,
      ⟨some 20, .app 56 4 (.t 12) (.t 19), none⟩,
      ⟨some 3, .mvs 20, none⟩])) (.reg false [
      ⟨some 10, .mov (.t 4), none⟩,
      ⟨some 11, .bin .add (.t 10) (.c (.int .i64 1)), none⟩,
      ⟨some 4, .mov (.t 11), none⟩]))

def sealringref54_Few_r0 : AC :=
  .seq (.reg false [
      ⟨some 21, .fad 1 0, none⟩,
      ⟨some 22, .ldf 1 0 1 false, none⟩,
      ⟨some 23, .lens (.t 22), none⟩,
      ⟨some 24, .bin .leq (.t 23) (.c (.int .i64 60)), none⟩,
      ⟨some 25, .mov (.t 24), none⟩,
      ⟨some 26, .fad 1 4, some (25, true)⟩,
      ⟨some 27, .ldf 1 4 1 false, some (25, true)⟩,
      ⟨some 28, .lenl (.t 27), some (25, true)⟩,
      ⟨some 29, .bin .leq (.t 28) (.c (.int .i64 210)), some (25, true)⟩,
      ⟨some 30, .pick (.t 25) (.t 29) (.c (.bool false)), none⟩,
      ⟨some 31, .mov (.t 30), none⟩,
      ⟨some 32, .mov (.t 3), some (31, true)⟩,
      ⟨some 33, .call 101 [.t 32, .c (.int .i64 12), .c (.int .i64 60)], some (31, true)⟩,
      ⟨some 34, .pick (.t 31) (.t 33) (.c (.bool false)), none⟩,
      ⟨some 2, .mov (.t 34), none⟩]) (.ret)

/-- sealring/sealringref54.Few : 100 -/
def sealringref54_Few_b : AC :=
  .seq (.reg false [
      ⟨some 1, .box (.t 0), none⟩,
      ⟨some 2, .mov (.c (.bool false)), none⟩]) (.seq (.reg false [
      ⟨some 3, .mov (.c (.sl true 4 [])), none⟩]) (.seq (.seq (.reg false [
      ⟨some 4, .mov (.c (.int .i64 0)), none⟩]) (.block 0 (.loop (sealringref54_Few_l0)))) (sealringref54_Few_r0)))

def sealringref54_Few : AFun := { nparams := 1, ntmps := 35, res := [.tmp 2], keep := false, body := sealringref54_Few_b }
theorem sealringref54_Few_body : sealringref54_Few.body = sealringref54_Few_b := rfl
theorem sealringref54_Few_res : sealringref54_Few.res = [.tmp 2] := rfl
theorem sealringref54_Few_keep : sealringref54_Few.keep = false := rfl

def sealringref01_Few_l0 : AC :=
  .seq (.seq (.reg false [
      ⟨some 12, .mov (.t 7), none⟩,
      ⟨some 13, .mov (.t 0), none⟩,
      ⟨some 14, .lenl (.t 13), none⟩,
      ⟨some 15, .bin .lss (.t 12) (.t 14), none⟩]) (.cond (.t 15) (.skip) (.exit 0))) (.seq (.block 1 (.seq (.reg false [
      ⟨some 18, .mov (.t 0), none⟩,
      ⟨some 19, .mov (.t 7), none⟩,
      ⟨some 20, .idxa 4 (.t 18) (.t 19), none⟩,
      ⟨some 21, .ld 20 4 true, none⟩,
      ⟨some 22, .mov (.t 2), none⟩,
      ⟨some 23, .call 102 [.t 21, .t 22], none⟩,
      ⟨some 2, .mov (.t 23), none⟩]) (.seq (.reg false [
      ⟨some 24, .mov (.t 2), none⟩,
      ⟨some 25, .bin .lss (.t 24) (.c (.int .i64 0)), none⟩]) (.cond (.t 25) (.seq (.reg false [
      ⟨some 6, .mov (.c (.bool false)), none⟩]) (.ret)) (.skip))))) (.reg false [
      ⟨some 16, .mov (.t 7), none⟩,
      ⟨some 17, .bin .add (.t 16) (.c (.int .i64 1)), none⟩,
      ⟨some 7, .mov (.t 17), none⟩]))

def sealringref01_Few_r0 : AC :=
  .seq (.reg false [
      ⟨some 6, .mov (.c (.bool true)), none⟩]) (.ret)

/-- sealring/sealringref01.Few : 101 -/
def sealringref01_Few_b : AC :=
  .seq (.reg false [
      ⟨some 6, .mov (.c (.bool false)), none⟩]) (.seq (.seq (.reg false [
      ⟨some 8, .mov (.t 0), none⟩,
      ⟨some 9, .lenl (.t 8), none⟩,
      ⟨some 10, .mov (.t 1), none⟩,
      ⟨some 11, .bin .gtr (.t 9) (.t 10), none⟩]) (.cond (.t 11) (.seq (.reg false [
      ⟨some 6, .mov (.c (.bool false)), none⟩]) (.ret)) (.skip))) (.seq (.seq (.reg false [
      ⟨some 7, .mov (.c (.int .i64 0)), none⟩]) (.block 0 (.loop (sealringref01_Few_l0)))) (sealringref01_Few_r0)))

def sealringref01_Few : AFun := { nparams := 3, ntmps := 26, res := [.tmp 6], keep := false, body := sealringref01_Few_b }
theorem sealringref01_Few_body : sealringref01_Few.body = sealringref01_Few_b := rfl
theorem sealringref01_Few_res : sealringref01_Few.res = [.tmp 6] := rfl
theorem sealringref01_Few_keep : sealringref01_Few.keep = false := rfl

def sealringref01_budget_l0 : AC :=
  .seq (.seq (.reg false [
      ⟨some 16, .mov (.t 5), none⟩,
      ⟨some 17, .fad 2 3, none⟩,
      ⟨some 18, .ldf 2 3 1 false, none⟩,
      ⟨some 19, .lenl (.t 18), none⟩,
      ⟨some 20, .bin .lss (.t 16) (.t 19), none⟩]) (.cond (.t 20) (.skip) (.exit 0))) (.seq (.block 1 (.seq (.reg false [
      ⟨some 23, .fad 2 3, none⟩,
      ⟨some 24, .ldf 2 3 1 false, none⟩,
      ⟨some 25, .mov (.t 5), none⟩,
      ⟨some 26, .idxa 4 (.t 24) (.t 25), none⟩,
      ⟨some 27, .ld 26 4 true, none⟩,
      ⟨some 28, .mov (.t 1), none⟩,
      ⟨some 29, .call 102 [.t 27, .t 28], none⟩,
      ⟨some 1, .mov (.t 29), none⟩]) (.seq (.reg false [
      ⟨some 30, .mov (.t 1), none⟩,
      ⟨some 31, .bin .lss (.t 30) (.c (.int .i64 0)), none⟩]) (.cond (.t 31) (.seq (.reg false [
      ⟨some 4, .mov (.c (.int .i64 (-1))), none⟩]) (.ret)) (.skip))))) (.reg false [
      ⟨some 21, .mov (.t 5), none⟩,
      ⟨some 22, .bin .add (.t 21) (.c (.int .i64 1)), none⟩,
      ⟨some 5, .mov (.t 22), none⟩]))

def sealringref01_budget_r0 : AC :=
  .seq (.reg false [
      ⟨some 32, .mov (.t 1), none⟩,
      ⟨some 4, .mov (.t 32), none⟩]) (.ret)

/-- sealring/sealringref01.budget : 102 -/
def sealringref01_budget_b : AC :=
  .seq (.reg false [
      ⟨some 2, .box (.t 0), none⟩,
      ⟨some 4, .mov (.c (.int .i64 0)), none⟩]) (.seq (.seq (.reg false [
      ⟨some 6, .mov (.t 1), none⟩,
      ⟨some 7, .bin .leq (.t 6) (.c (.int .i64 0)), none⟩,
      ⟨some 8, .mov (.t 7), none⟩,
      ⟨some 9, .fad 2 1, some (8, false)⟩,
      ⟨some 10, .ldf 2 1 1 false, some (8, false)⟩,
      ⟨some 11, .lens (.t 10), some (8, false)⟩,
      ⟨some 12, .bin .gtr (.t 11) (.c (.int .i64 40)), some (8, false)⟩,
      ⟨some 13, .pick (.t 8) (.c (.bool true)) (.t 12), none⟩]) (.cond (.t 13) (.seq (.reg false [
      ⟨some 4, .mov (.c (.int .i64 (-1))), none⟩]) (.ret)) (.skip))) (.seq (.reg false [
      ⟨some 14, .mov (.t 1), none⟩,
      ⟨some 15, .bin .sub (.t 14) (.c (.int .i64 1)), none⟩,
      ⟨some 1, .mov (.t 15), none⟩]) (.seq (.seq (.reg false [
      ⟨some 5, .mov (.c (.int .i64 0)), none⟩]) (.block 0 (.loop (sealringref01_budget_l0)))) (sealringref01_budget_r0))))

def sealringref01_budget : AFun := { nparams := 2, ntmps := 33, res := [.tmp 4], keep := false, body := sealringref01_budget_b }
theorem sealringref01_budget_body : sealringref01_budget.body = sealringref01_budget_b := rfl
theorem sealringref01_budget_res : sealringref01_budget.res = [.tmp 4] := rfl
theorem sealringref01_budget_keep : sealringref01_budget.keep = false := rfl

end Go.Am.F
