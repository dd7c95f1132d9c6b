/-
  Check.
-/
import Derived.Test.YtdabongfphoilaaGreatDoorCodeB
import Derived.Test.YtdabongfphoilaaGreatDoorMachG
import Derived.WalkKit
import Derived.Test.YtdabongfphoilaaGreatDoorShelf
import Derived.Test.YtdabongfphoilaaGreatDoorProg
set_option linter.unusedVariables false
set_option linter.unusedSimpArgs false

namespace Go.Am.Chk
open Go.Proofs.Tryz

def numL : List (Nat × Nat) := [(0, 3), (1, 9), (2, 11), (3, 35), (4, 44), (5, 47), (6, 81), (7, 106), (8, 125), (9, 142), (10, 76), (16, 36), (17, 37), (18, 77), (25, 19), (26, 43), (27, 14), (28, 40), (29, 68), (30, 99), (31, 114), (32, 113), (33, 115), (36, 41), (37, 80), (38, 45), (39, 48), (40, 46), (41, 82), (42, 107), (43, 126), (44, 143), (45, 157), (46, 83), (47, 108), (48, 127), (49, 84), (50, 49), (51, 50), (52, 51), (53, 34), (54, 74), (55, 101), (56, 119), (57, 53), (58, 85), (59, 86), (60, 90), (61, 102), (62, 75), (63, 103), (64, 22), (65, 49), (66, 50), (67, 28), (68, 30), (69, 65), (70, 97), (71, 110), (72, 98), (73, 111), (74, 129), (75, 144), (76, 112), (79, 67), (80, 66), (81, 91), (82, 62), (83, 63), (84, 94), (85, 93), (86, 49), (87, 51), (89, 24), (90, 56), (91, 89), (92, 25), (93, 49), (94, 58), (96, 60), (99, 17), (100, 10), (101, 27), (102, 61), (103, 12), (104, 38), (105, 39), (106, 79), (107, 78), (108, 13), (109, 15), (110, 42), (111, 18), (112, 16), (113, 4), (114, 20), (115, 21), (116, 52), (117, 54), (118, 55), (119, 88), (120, 87), (121, 23), (122, 26), (123, 5), (124, 29), (125, 31), (126, 69), (127, 100), (128, 116), (129, 133), (130, 117), (131, 118), (132, 70), (133, 71), (134, 72), (135, 73), (136, 6), (137, 32), (138, 33), (139, 8), (140, 7), (141, 64), (142, 57), (143, 91), (144, 59), (145, 92)]
def num : Nat → Option Nat := fun f => numL.lookup f

theorem ok_sealringlaw54_TicketValid : okFun prog num F.sealringlaw54_TicketValid f3 = true := by kernel_rfl
theorem ok_sealringlaw54_awake : okFun prog num F.sealringlaw54_awake f9 = true := by kernel_rfl
theorem ok_ticket_New : okFun prog num F.ticket_New f11 = true := by kernel_rfl
theorem ok_ticket_serverName : okFun prog num F.ticket_serverName f35 = true := by kernel_rfl
theorem ok_ticket_isName : okFun prog num F.ticket_isName f44 = true := by kernel_rfl
theorem ok_ticket_atom : okFun prog num F.ticket_atom f47 = true := by kernel_rfl
theorem ok_term_Valid : okFun prog num F.term_Valid f81 = true := by kernel_rfl
theorem ok_term_check : okFun prog num F.term_check f106 = true := by kernel_rfl
theorem ok_term_isName : okFun prog num F.term_isName f125 = true := by kernel_rfl
theorem ok_term_part : okFun prog num F.term_part f142 = true := by kernel_rfl
theorem ok_ticket_in : okFun prog num F.ticket_in f36 = true := by kernel_rfl
theorem ok_ticket_epochKey : okFun prog num F.ticket_epochKey f37 = true := by kernel_rfl
theorem ok_ticket_Issue : okFun prog num F.ticket_Issue f19 = true := by kernel_rfl
theorem ok_ticket_call : okFun prog num F.ticket_call f43 = true := by kernel_rfl
theorem ok_ticket_Valid : okFun prog num F.ticket_Valid f14 = true := by kernel_rfl
theorem ok_ticket_keys : okFun prog num F.ticket_keys f40 = true := by kernel_rfl
theorem ok_ticket_same : okFun prog num F.ticket_same f68 = true := by kernel_rfl
theorem ok_term_Compare : okFun prog num F.term_Compare f99 = true := by kernel_rfl
theorem ok_term_Size : okFun prog num F.term_Size f114 = true := by kernel_rfl
theorem ok_term_sign : okFun prog num F.term_sign f113 = true := by kernel_rfl
theorem ok_ticket_used : okFun prog num F.ticket_used f41 = true := by kernel_rfl
theorem ok_ticket_early : okFun prog num F.ticket_early f80 = true := by kernel_rfl
theorem ok_ticket_ticketKey : okFun prog num F.ticket_ticketKey f45 = true := by kernel_rfl
theorem ok_ticket_number : okFun prog num F.ticket_number f48 = true := by kernel_rfl
theorem ok_theory_Tuple : okFun prog num F.theory_Tuple f46 = true := by kernel_rfl
theorem ok_theory_Valid : okFun prog num F.theory_Valid f82 = true := by kernel_rfl
theorem ok_theory_check : okFun prog num F.theory_check f107 = true := by kernel_rfl
theorem ok_theory_symbol : okFun prog num F.theory_symbol f126 = true := by kernel_rfl
theorem ok_theory_Symbols : okFun prog num F.theory_Symbols f143 = true := by kernel_rfl
theorem ok_theory_Symbols_c1 : okFun prog num F.theory_Symbols_c1 f157 = true := by kernel_rfl
theorem ok_theory_copied : okFun prog num F.theory_copied f83 = true := by kernel_rfl
theorem ok_term_At : okFun prog num F.term_At f108 = true := by kernel_rfl
theorem ok_term_clone : okFun prog num F.term_clone f127 = true := by kernel_rfl
theorem ok_theory_app : okFun prog num F.theory_app f84 = true := by kernel_rfl
theorem ok_ticket_copied : okFun prog num F.ticket_copied f49 = true := by kernel_rfl
theorem ok_sealringref01_Format : okFun prog num F.sealringref01_Format f34 = true := by kernel_rfl
theorem ok_sealringref01_Valid : okFun prog num F.sealringref01_Valid f74 = true := by kernel_rfl
theorem ok_sealringref01_nodes : okFun prog num F.sealringref01_nodes f101 = true := by kernel_rfl
theorem ok_sealringref01_node : okFun prog num F.sealringref01_node f119 = true := by kernel_rfl
theorem ok_sealringref01_IsName : okFun prog num F.sealringref01_IsName f53 = true := by kernel_rfl
theorem ok_sealringref01_letter : okFun prog num F.sealringref01_letter f85 = true := by kernel_rfl
theorem ok_sealringref01_digit : okFun prog num F.sealringref01_digit f86 = true := by kernel_rfl
theorem ok_sealringref01_Size : okFun prog num F.sealringref01_Size f90 = true := by kernel_rfl
theorem ok_sealringref01_Depth : okFun prog num F.sealringref01_Depth f102 = true := by kernel_rfl
theorem ok_sealringref01_Text : okFun prog num F.sealringref01_Text f75 = true := by kernel_rfl
theorem ok_sealringref01_word : okFun prog num F.sealringref01_word f103 = true := by kernel_rfl
theorem ok_ticket_Rotate : okFun prog num F.ticket_Rotate f22 = true := by kernel_rfl
theorem ok_ticket_copied_k : okFun prog num F.ticket_copied_k f49 = true := by kernel_rfl
theorem ok_ticket_Resume : okFun prog num F.ticket_Resume f28 = true := by kernel_rfl
theorem ok_ticket_Read : okFun prog num F.ticket_Read f30 = true := by kernel_rfl
theorem ok_ticket_parts : okFun prog num F.ticket_parts f65 = true := by kernel_rfl
theorem ok_theory_Untuple : okFun prog num F.theory_Untuple f97 = true := by kernel_rfl
theorem ok_theory_is : okFun prog num F.theory_is f110 = true := by kernel_rfl
theorem ok_ticket_read : okFun prog num F.ticket_read f98 = true := by kernel_rfl
theorem ok_strings_CutPrefix : okFun prog num F.strings_CutPrefix f111 = true := by kernel_rfl
theorem ok_internal_stringslite_CutPrefix : okFun prog num F.internal_stringslite_CutPrefix f129 = true := by kernel_rfl
theorem ok_internal_stringslite_HasPrefix : okFun prog num F.internal_stringslite_HasPrefix f144 = true := by kernel_rfl
theorem ok_ticket_Read_c1 : okFun prog num F.ticket_Read_c1 f67 = true := by kernel_rfl
theorem ok_slices_ContainsFunc_api_Epoch_api_Epoch : okFun prog num F.slices_ContainsFunc_api_Epoch_api_Epoch f66 = true := by kernel_rfl
theorem ok_slices_IndexFunc_api_Epoch_api_Epoch : okFun prog num F.slices_IndexFunc_api_Epoch_api_Epoch f91 = true := by kernel_rfl
theorem ok_ticket_accept : okFun prog num F.ticket_accept f62 = true := by kernel_rfl
theorem ok_ticket_place : okFun prog num F.ticket_place f63 = true := by kernel_rfl
theorem ok_ticket_place_c1 : okFun prog num F.ticket_place_c1 f94 = true := by kernel_rfl
theorem ok_slices_BinarySearchFunc_api_Used_api_Used_int : okFun prog num F.slices_BinarySearchFunc_api_Used_api_Used_int f93 = true := by kernel_rfl
theorem ok_ticket_copied_u : okFun prog num F.ticket_copied_u f49 = true := by kernel_rfl
theorem ok_sealringref01_Same : okFun prog num F.sealringref01_Same f24 = true := by kernel_rfl
theorem ok_sealringref01_Compare : okFun prog num F.sealringref01_Compare f56 = true := by kernel_rfl
theorem ok_sealringref01_number : okFun prog num F.sealringref01_number f89 = true := by kernel_rfl
theorem ok_ticket_Expire : okFun prog num F.ticket_Expire f25 = true := by kernel_rfl
theorem ok_ticket_copied_ku : okFun prog num F.ticket_copied_ku f49 = true := by kernel_rfl
theorem ok_ticket_Expire_c1 : okFun prog num F.ticket_Expire_c1 f58 = true := by kernel_rfl
theorem ok_ticket_Expire_c2 : okFun prog num F.ticket_Expire_c2 f60 = true := by kernel_rfl
theorem ok_ticket_Knows : okFun prog num F.ticket_Knows f17 = true := by kernel_rfl
theorem ok_sealringref54_Few : okFun prog num F.sealringref54_Few f10 = true := by kernel_rfl
theorem ok_sealringref01_Few : okFun prog num F.sealringref01_Few f27 = true := by kernel_rfl
theorem ok_sealringref01_budget : okFun prog num F.sealringref01_budget f61 = true := by kernel_rfl
theorem ok_sealringref54_New : okFun prog num F.sealringref54_New f12 = true := by kernel_rfl
theorem ok_sealringref54_rightName : okFun prog num F.sealringref54_rightName f38 = true := by kernel_rfl
theorem ok_sealringref54_EpochKey : okFun prog num F.sealringref54_EpochKey f39 = true := by kernel_rfl
theorem ok_sealringref54_digits : okFun prog num F.sealringref54_digits f79 = true := by kernel_rfl
theorem ok_sealringref01_Atom : okFun prog num F.sealringref01_Atom f78 = true := by kernel_rfl
theorem ok_sealringref54_Same : okFun prog num F.sealringref54_Same f13 = true := by kernel_rfl
theorem ok_sealringref54_Valid : okFun prog num F.sealringref54_Valid f15 = true := by kernel_rfl
theorem ok_sealringref54_rightKeys : okFun prog num F.sealringref54_rightKeys f42 = true := by kernel_rfl
theorem ok_sealringref54_Knows : okFun prog num F.sealringref54_Knows f18 = true := by kernel_rfl
theorem ok_sealringref01_Lists : okFun prog num F.sealringref01_Lists f16 = true := by kernel_rfl
theorem ok_sealringlaw54_TicketIssue : okFun prog num F.sealringlaw54_TicketIssue f4 = true := by kernel_rfl
theorem ok_sealringlaw54_own : okFun prog num F.sealringlaw54_own f20 = true := by kernel_rfl
theorem ok_sealringref54_Issue : okFun prog num F.sealringref54_Issue f21 = true := by kernel_rfl
theorem ok_sealringref54_called : okFun prog num F.sealringref54_called f52 = true := by kernel_rfl
theorem ok_sealringref54_TicketKey : okFun prog num F.sealringref54_TicketKey f54 = true := by kernel_rfl
theorem ok_sealringref54_Written : okFun prog num F.sealringref54_Written f55 = true := by kernel_rfl
theorem ok_sealringref54_Number : okFun prog num F.sealringref54_Number f88 = true := by kernel_rfl
theorem ok_sealringref01_App : okFun prog num F.sealringref01_App f87 = true := by kernel_rfl
theorem ok_sealringref54_Rotate : okFun prog num F.sealringref54_Rotate f23 = true := by kernel_rfl
theorem ok_sealringref54_Expire : okFun prog num F.sealringref54_Expire f26 = true := by kernel_rfl
theorem ok_sealringlaw54_TicketResume : okFun prog num F.sealringlaw54_TicketResume f5 = true := by kernel_rfl
theorem ok_sealringref54_Resume : okFun prog num F.sealringref54_Resume f29 = true := by kernel_rfl
theorem ok_sealringref54_Read : okFun prog num F.sealringref54_Read f31 = true := by kernel_rfl
theorem ok_sealringref09_Valid : okFun prog num F.sealringref09_Valid f69 = true := by kernel_rfl
theorem ok_sealringref09_nodes : okFun prog num F.sealringref09_nodes f100 = true := by kernel_rfl
theorem ok_sealringref09_Kind : okFun prog num F.sealringref09_Kind f116 = true := by kernel_rfl
theorem ok_sealringref09_Symbols : okFun prog num F.sealringref09_Symbols f133 = true := by kernel_rfl
theorem ok_sealringref09_fits : okFun prog num F.sealringref09_fits f117 = true := by kernel_rfl
theorem ok_sealringref09_agents : okFun prog num F.sealringref09_agents f118 = true := by kernel_rfl
theorem ok_sealringref09_Is : okFun prog num F.sealringref09_Is f70 = true := by kernel_rfl
theorem ok_sealringref09_Untuple : okFun prog num F.sealringref09_Untuple f71 = true := by kernel_rfl
theorem ok_sealringref54_number : okFun prog num F.sealringref54_number f72 = true := by kernel_rfl
theorem ok_sealringref54_has : okFun prog num F.sealringref54_has f73 = true := by kernel_rfl
theorem ok_sealringlaw54_TicketPlay : okFun prog num F.sealringlaw54_TicketPlay f6 = true := by kernel_rfl
theorem ok_sealringref54_Played : okFun prog num F.sealringref54_Played f32 = true := by kernel_rfl
theorem ok_sealringref54_Next : okFun prog num F.sealringref54_Next f33 = true := by kernel_rfl
theorem ok_sealringlaw54_TicketKept : okFun prog num F.sealringlaw54_TicketKept f8 = true := by kernel_rfl
theorem ok_sealringlaw54_TicketOnce : okFun prog num F.sealringlaw54_TicketOnce f7 = true := by kernel_rfl
theorem ok_slices_DeleteFunc_api_Epoch_api_Epoch_a0 : okFun prog num F.slices_DeleteFunc_api_Epoch_api_Epoch_a0 f57 = true := by kernel_rfl
theorem ok_slices_IndexFunc_api_Epoch_api_Epoch_a0 : okFun prog num F.slices_IndexFunc_api_Epoch_api_Epoch_a0 f91 = true := by kernel_rfl
theorem ok_slices_DeleteFunc_api_Used_api_Used_a0 : okFun prog num F.slices_DeleteFunc_api_Used_api_Used_a0 f59 = true := by kernel_rfl
theorem ok_slices_IndexFunc_api_Used_api_Used_a0 : okFun prog num F.slices_IndexFunc_api_Used_api_Used_a0 f92 = true := by kernel_rfl
theorem ok_slices_Clone_api_Epoch_api_Epoch : okClone prog num false 72 6 f50 = true := by kernel_rfl
theorem ok_slices_Clone_api_Used_api_Used : okClone prog num false 16 2 f51 = true := by kernel_rfl
theorem ok_slices_Clone_api_Epoch_api_Epoch_g : okClone prog num true 72 6 f50 = true := by kernel_rfl
theorem ok_slices_Clone_api_Used_api_Used_g : okClone prog num true 16 2 f51 = true := by kernel_rfl
theorem mixed0 : prog.follows .mixedOrders = true := by kernel_rfl
def ren_141 : Go.Shelf.Ren := ⟨fun n => match n with | 29 => 95 | 30 => 96 | 22 => 64 | n => n, fun n => match n with | 24 => 23 | 9 => 72 | 3 => 3 | 4 => 4 | 0 => 0 | n => n, fun n => n⟩
theorem ok_slices_Insert_api_Used_api_Used_a0 : InsLay prog ren_141 f64 2 16 (.agg #[.int .i64 0, .int .i64 0]) where
  mixed := mixed0
  body := by kernel_rfl
  ntmps := by kernel_rfl
  res := by kernel_rfl
  f29 := fun args w => run_callFunc_extern (f := ren_141.f 29) (fn := f95) func95 (by kernel_rfl) (by kernel_rfl) (by kernel_rfl) (e := Extern.SlicesOverlaps.overlaps #[ren_141.t 24, ren_141.t 24] #[ren_141.t 4]) (by kernel_rfl) args w
  t0 := by kernel_rfl
  t3 := by kernel_rfl
  t4 := by kernel_rfl
  t24 := by kernel_rfl
  i9 := by kernel_rfl
  zc := by kernel_rfl
  a3 := fun w => run_isAgg (by kernel_rfl)
  a4 := fun w => run_isAgg (by kernel_rfl)
  a24 := fun w => run_isAgg (by kernel_rfl)
  z3 := fun w => run_sizeOf (by kernel_rfl)
  z4 := fun w => run_sizeOf (by kernel_rfl)
  z9 := fun w => run_sizeOf (by kernel_rfl)
  z24 := fun w => run_sizeOf (by kernel_rfl)
/-- The table fits the program. -/
theorem ent_0 : Ent prog 3 := ent_of func3 (by kernel_rfl) (by kernel_rfl)
theorem ent_1 : Ent prog 9 := ent_of func9 (by kernel_rfl) (by kernel_rfl)
theorem ent_2 : Ent prog 11 := ent_of func11 (by kernel_rfl) (by kernel_rfl)
theorem ent_3 : Ent prog 35 := ent_of func35 (by kernel_rfl) (by kernel_rfl)
theorem ent_4 : Ent prog 44 := ent_of func44 (by kernel_rfl) (by kernel_rfl)
theorem ent_5 : Ent prog 47 := ent_of func47 (by kernel_rfl) (by kernel_rfl)
theorem ent_6 : Ent prog 81 := ent_of func81 (by kernel_rfl) (by kernel_rfl)
theorem ent_7 : Ent prog 106 := ent_of func106 (by kernel_rfl) (by kernel_rfl)
theorem ent_8 : Ent prog 125 := ent_of func125 (by kernel_rfl) (by kernel_rfl)
theorem ent_9 : Ent prog 142 := ent_of func142 (by kernel_rfl) (by kernel_rfl)
theorem ent_10 : Ent prog 76 := ent_of func76 (by kernel_rfl) (by kernel_rfl)
theorem ent_16 : Ent prog 36 := ent_of func36 (by kernel_rfl) (by kernel_rfl)
theorem ent_17 : Ent prog 37 := ent_of func37 (by kernel_rfl) (by kernel_rfl)
theorem ent_18 : Ent prog 77 := ent_of func77 (by kernel_rfl) (by kernel_rfl)
theorem ent_25 : Ent prog 19 := ent_of func19 (by kernel_rfl) (by kernel_rfl)
theorem ent_26 : Ent prog 43 := ent_of func43 (by kernel_rfl) (by kernel_rfl)
theorem ent_27 : Ent prog 14 := ent_of func14 (by kernel_rfl) (by kernel_rfl)
theorem ent_28 : Ent prog 40 := ent_of func40 (by kernel_rfl) (by kernel_rfl)
theorem ent_29 : Ent prog 68 := ent_of func68 (by kernel_rfl) (by kernel_rfl)
theorem ent_30 : Ent prog 99 := ent_of func99 (by kernel_rfl) (by kernel_rfl)
theorem ent_31 : Ent prog 114 := ent_of func114 (by kernel_rfl) (by kernel_rfl)
theorem ent_32 : Ent prog 113 := ent_of func113 (by kernel_rfl) (by kernel_rfl)
theorem ent_33 : Ent prog 115 := ent_of func115 (by kernel_rfl) (by kernel_rfl)
theorem ent_36 : Ent prog 41 := ent_of func41 (by kernel_rfl) (by kernel_rfl)
theorem ent_37 : Ent prog 80 := ent_of func80 (by kernel_rfl) (by kernel_rfl)
theorem ent_38 : Ent prog 45 := ent_of func45 (by kernel_rfl) (by kernel_rfl)
theorem ent_39 : Ent prog 48 := ent_of func48 (by kernel_rfl) (by kernel_rfl)
theorem ent_40 : Ent prog 46 := ent_of func46 (by kernel_rfl) (by kernel_rfl)
theorem ent_41 : Ent prog 82 := ent_of func82 (by kernel_rfl) (by kernel_rfl)
theorem ent_42 : Ent prog 107 := ent_of func107 (by kernel_rfl) (by kernel_rfl)
theorem ent_43 : Ent prog 126 := ent_of func126 (by kernel_rfl) (by kernel_rfl)
theorem ent_44 : Ent prog 143 := ent_of func143 (by kernel_rfl) (by kernel_rfl)
theorem ent_45 : Ent prog 157 := ent_of func157 (by kernel_rfl) (by kernel_rfl)
theorem ent_46 : Ent prog 83 := ent_of func83 (by kernel_rfl) (by kernel_rfl)
theorem ent_47 : Ent prog 108 := ent_of func108 (by kernel_rfl) (by kernel_rfl)
theorem ent_48 : Ent prog 127 := ent_of func127 (by kernel_rfl) (by kernel_rfl)
theorem ent_49 : Ent prog 84 := ent_of func84 (by kernel_rfl) (by kernel_rfl)
theorem ent_50 : Ent prog 49 := ent_of func49 (by kernel_rfl) (by kernel_rfl)
theorem ent_51 : Ent prog 50 := ent_of func50 (by kernel_rfl) (by kernel_rfl)
theorem ent_52 : Ent prog 51 := ent_of func51 (by kernel_rfl) (by kernel_rfl)
theorem ent_53 : Ent prog 34 := ent_of func34 (by kernel_rfl) (by kernel_rfl)
theorem ent_54 : Ent prog 74 := ent_of func74 (by kernel_rfl) (by kernel_rfl)
theorem ent_55 : Ent prog 101 := ent_of func101 (by kernel_rfl) (by kernel_rfl)
theorem ent_56 : Ent prog 119 := ent_of func119 (by kernel_rfl) (by kernel_rfl)
theorem ent_57 : Ent prog 53 := ent_of func53 (by kernel_rfl) (by kernel_rfl)
theorem ent_58 : Ent prog 85 := ent_of func85 (by kernel_rfl) (by kernel_rfl)
theorem ent_59 : Ent prog 86 := ent_of func86 (by kernel_rfl) (by kernel_rfl)
theorem ent_60 : Ent prog 90 := ent_of func90 (by kernel_rfl) (by kernel_rfl)
theorem ent_61 : Ent prog 102 := ent_of func102 (by kernel_rfl) (by kernel_rfl)
theorem ent_62 : Ent prog 75 := ent_of func75 (by kernel_rfl) (by kernel_rfl)
theorem ent_63 : Ent prog 103 := ent_of func103 (by kernel_rfl) (by kernel_rfl)
theorem ent_64 : Ent prog 22 := ent_of func22 (by kernel_rfl) (by kernel_rfl)
theorem ent_65 : Ent prog 49 := ent_of func49 (by kernel_rfl) (by kernel_rfl)
theorem ent_66 : Ent prog 50 := ent_of func50 (by kernel_rfl) (by kernel_rfl)
theorem ent_67 : Ent prog 28 := ent_of func28 (by kernel_rfl) (by kernel_rfl)
theorem ent_68 : Ent prog 30 := ent_of func30 (by kernel_rfl) (by kernel_rfl)
theorem ent_69 : Ent prog 65 := ent_of func65 (by kernel_rfl) (by kernel_rfl)
theorem ent_70 : Ent prog 97 := ent_of func97 (by kernel_rfl) (by kernel_rfl)
theorem ent_71 : Ent prog 110 := ent_of func110 (by kernel_rfl) (by kernel_rfl)
theorem ent_72 : Ent prog 98 := ent_of func98 (by kernel_rfl) (by kernel_rfl)
theorem ent_73 : Ent prog 111 := ent_of func111 (by kernel_rfl) (by kernel_rfl)
theorem ent_74 : Ent prog 129 := ent_of func129 (by kernel_rfl) (by kernel_rfl)
theorem ent_75 : Ent prog 144 := ent_of func144 (by kernel_rfl) (by kernel_rfl)
theorem ent_76 : Ent prog 112 := ent_of func112 (by kernel_rfl) (by kernel_rfl)
theorem ent_79 : Ent prog 67 := ent_of func67 (by kernel_rfl) (by kernel_rfl)
theorem ent_80 : Ent prog 66 := ent_of func66 (by kernel_rfl) (by kernel_rfl)
theorem ent_81 : Ent prog 91 := ent_of func91 (by kernel_rfl) (by kernel_rfl)
theorem ent_82 : Ent prog 62 := ent_of func62 (by kernel_rfl) (by kernel_rfl)
theorem ent_83 : Ent prog 63 := ent_of func63 (by kernel_rfl) (by kernel_rfl)
theorem ent_84 : Ent prog 94 := ent_of func94 (by kernel_rfl) (by kernel_rfl)
theorem ent_85 : Ent prog 93 := ent_of func93 (by kernel_rfl) (by kernel_rfl)
theorem ent_86 : Ent prog 49 := ent_of func49 (by kernel_rfl) (by kernel_rfl)
theorem ent_87 : Ent prog 51 := ent_of func51 (by kernel_rfl) (by kernel_rfl)
theorem ent_89 : Ent prog 24 := ent_of func24 (by kernel_rfl) (by kernel_rfl)
theorem ent_90 : Ent prog 56 := ent_of func56 (by kernel_rfl) (by kernel_rfl)
theorem ent_91 : Ent prog 89 := ent_of func89 (by kernel_rfl) (by kernel_rfl)
theorem ent_92 : Ent prog 25 := ent_of func25 (by kernel_rfl) (by kernel_rfl)
theorem ent_93 : Ent prog 49 := ent_of func49 (by kernel_rfl) (by kernel_rfl)
theorem ent_94 : Ent prog 58 := ent_of func58 (by kernel_rfl) (by kernel_rfl)
theorem ent_96 : Ent prog 60 := ent_of func60 (by kernel_rfl) (by kernel_rfl)
theorem ent_99 : Ent prog 17 := ent_of func17 (by kernel_rfl) (by kernel_rfl)
theorem ent_100 : Ent prog 10 := ent_of func10 (by kernel_rfl) (by kernel_rfl)
theorem ent_101 : Ent prog 27 := ent_of func27 (by kernel_rfl) (by kernel_rfl)
theorem ent_102 : Ent prog 61 := ent_of func61 (by kernel_rfl) (by kernel_rfl)
theorem ent_103 : Ent prog 12 := ent_of func12 (by kernel_rfl) (by kernel_rfl)
theorem ent_104 : Ent prog 38 := ent_of func38 (by kernel_rfl) (by kernel_rfl)
theorem ent_105 : Ent prog 39 := ent_of func39 (by kernel_rfl) (by kernel_rfl)
theorem ent_106 : Ent prog 79 := ent_of func79 (by kernel_rfl) (by kernel_rfl)
theorem ent_107 : Ent prog 78 := ent_of func78 (by kernel_rfl) (by kernel_rfl)
theorem ent_108 : Ent prog 13 := ent_of func13 (by kernel_rfl) (by kernel_rfl)
theorem ent_109 : Ent prog 15 := ent_of func15 (by kernel_rfl) (by kernel_rfl)
theorem ent_110 : Ent prog 42 := ent_of func42 (by kernel_rfl) (by kernel_rfl)
theorem ent_111 : Ent prog 18 := ent_of func18 (by kernel_rfl) (by kernel_rfl)
theorem ent_112 : Ent prog 16 := ent_of func16 (by kernel_rfl) (by kernel_rfl)
theorem ent_113 : Ent prog 4 := ent_of func4 (by kernel_rfl) (by kernel_rfl)
theorem ent_114 : Ent prog 20 := ent_of func20 (by kernel_rfl) (by kernel_rfl)
theorem ent_115 : Ent prog 21 := ent_of func21 (by kernel_rfl) (by kernel_rfl)
theorem ent_116 : Ent prog 52 := ent_of func52 (by kernel_rfl) (by kernel_rfl)
theorem ent_117 : Ent prog 54 := ent_of func54 (by kernel_rfl) (by kernel_rfl)
theorem ent_118 : Ent prog 55 := ent_of func55 (by kernel_rfl) (by kernel_rfl)
theorem ent_119 : Ent prog 88 := ent_of func88 (by kernel_rfl) (by kernel_rfl)
theorem ent_120 : Ent prog 87 := ent_of func87 (by kernel_rfl) (by kernel_rfl)
theorem ent_121 : Ent prog 23 := ent_of func23 (by kernel_rfl) (by kernel_rfl)
theorem ent_122 : Ent prog 26 := ent_of func26 (by kernel_rfl) (by kernel_rfl)
theorem ent_123 : Ent prog 5 := ent_of func5 (by kernel_rfl) (by kernel_rfl)
theorem ent_124 : Ent prog 29 := ent_of func29 (by kernel_rfl) (by kernel_rfl)
theorem ent_125 : Ent prog 31 := ent_of func31 (by kernel_rfl) (by kernel_rfl)
theorem ent_126 : Ent prog 69 := ent_of func69 (by kernel_rfl) (by kernel_rfl)
theorem ent_127 : Ent prog 100 := ent_of func100 (by kernel_rfl) (by kernel_rfl)
theorem ent_128 : Ent prog 116 := ent_of func116 (by kernel_rfl) (by kernel_rfl)
theorem ent_129 : Ent prog 133 := ent_of func133 (by kernel_rfl) (by kernel_rfl)
theorem ent_130 : Ent prog 117 := ent_of func117 (by kernel_rfl) (by kernel_rfl)
theorem ent_131 : Ent prog 118 := ent_of func118 (by kernel_rfl) (by kernel_rfl)
theorem ent_132 : Ent prog 70 := ent_of func70 (by kernel_rfl) (by kernel_rfl)
theorem ent_133 : Ent prog 71 := ent_of func71 (by kernel_rfl) (by kernel_rfl)
theorem ent_134 : Ent prog 72 := ent_of func72 (by kernel_rfl) (by kernel_rfl)
theorem ent_135 : Ent prog 73 := ent_of func73 (by kernel_rfl) (by kernel_rfl)
theorem ent_136 : Ent prog 6 := ent_of func6 (by kernel_rfl) (by kernel_rfl)
theorem ent_137 : Ent prog 32 := ent_of func32 (by kernel_rfl) (by kernel_rfl)
theorem ent_138 : Ent prog 33 := ent_of func33 (by kernel_rfl) (by kernel_rfl)
theorem ent_139 : Ent prog 8 := ent_of func8 (by kernel_rfl) (by kernel_rfl)
theorem ent_140 : Ent prog 7 := ent_of func7 (by kernel_rfl) (by kernel_rfl)
theorem ent_141 : Ent prog 64 := ent_of func64 (by kernel_rfl) (by kernel_rfl)
theorem ent_142 : Ent prog 57 := ent_of func57 (by kernel_rfl) (by kernel_rfl)
theorem ent_143 : Ent prog 91 := ent_of func91 (by kernel_rfl) (by kernel_rfl)
theorem ent_144 : Ent prog 59 := ent_of func59 (by kernel_rfl) (by kernel_rfl)
theorem ent_145 : Ent prog 92 := ent_of func92 (by kernel_rfl) (by kernel_rfl)
theorem enters : Enters prog num := enters_of (fcons ent_0 (fcons ent_1 (fcons ent_2 (fcons ent_3 (fcons ent_4 (fcons ent_5 (fcons ent_6 (fcons ent_7 (fcons ent_8 (fcons ent_9 (fcons ent_10 (fcons ent_16 (fcons ent_17 (fcons ent_18 (fcons ent_25 (fcons ent_26 (fcons ent_27 (fcons ent_28 (fcons ent_29 (fcons ent_30 (fcons ent_31 (fcons ent_32 (fcons ent_33 (fcons ent_36 (fcons ent_37 (fcons ent_38 (fcons ent_39 (fcons ent_40 (fcons ent_41 (fcons ent_42 (fcons ent_43 (fcons ent_44 (fcons ent_45 (fcons ent_46 (fcons ent_47 (fcons ent_48 (fcons ent_49 (fcons ent_50 (fcons ent_51 (fcons ent_52 (fcons ent_53 (fcons ent_54 (fcons ent_55 (fcons ent_56 (fcons ent_57 (fcons ent_58 (fcons ent_59 (fcons ent_60 (fcons ent_61 (fcons ent_62 (fcons ent_63 (fcons ent_64 (fcons ent_65 (fcons ent_66 (fcons ent_67 (fcons ent_68 (fcons ent_69 (fcons ent_70 (fcons ent_71 (fcons ent_72 (fcons ent_73 (fcons ent_74 (fcons ent_75 (fcons ent_76 (fcons ent_79 (fcons ent_80 (fcons ent_81 (fcons ent_82 (fcons ent_83 (fcons ent_84 (fcons ent_85 (fcons ent_86 (fcons ent_87 (fcons ent_89 (fcons ent_90 (fcons ent_91 (fcons ent_92 (fcons ent_93 (fcons ent_94 (fcons ent_96 (fcons ent_99 (fcons ent_100 (fcons ent_101 (fcons ent_102 (fcons ent_103 (fcons ent_104 (fcons ent_105 (fcons ent_106 (fcons ent_107 (fcons ent_108 (fcons ent_109 (fcons ent_110 (fcons ent_111 (fcons ent_112 (fcons ent_113 (fcons ent_114 (fcons ent_115 (fcons ent_116 (fcons ent_117 (fcons ent_118 (fcons ent_119 (fcons ent_120 (fcons ent_121 (fcons ent_122 (fcons ent_123 (fcons ent_124 (fcons ent_125 (fcons ent_126 (fcons ent_127 (fcons ent_128 (fcons ent_129 (fcons ent_130 (fcons ent_131 (fcons ent_132 (fcons ent_133 (fcons ent_134 (fcons ent_135 (fcons ent_136 (fcons ent_137 (fcons ent_138 (fcons ent_139 (fcons ent_140 (fcons ent_141 (fcons ent_142 (fcons ent_143 (fcons ent_144 (fcons ent_145 (fnil))))))))))))))))))))))))))))))))))))))))))))))))))))))))))))))))))))))))))))))))))))))))))))))))))))))))))))))))))))))))))))))))
theorem mixed : prog.follows .mixedOrders = true := by kernel_rfl
theorem fit_0 : Fit1 prog num (glob prog) F.tb 0 3 := fit_code F.tb_0 func3 ok_sealringlaw54_TicketValid
theorem fit_1 : Fit1 prog num (glob prog) F.tb 1 9 := fit_code F.tb_1 func9 ok_sealringlaw54_awake
theorem fit_2 : Fit1 prog num (glob prog) F.tb 2 11 := fit_code F.tb_2 func11 ok_ticket_New
theorem fit_3 : Fit1 prog num (glob prog) F.tb 3 35 := fit_code F.tb_3 func35 ok_ticket_serverName
theorem fit_4 : Fit1 prog num (glob prog) F.tb 4 44 := fit_code F.tb_4 func44 ok_ticket_isName
theorem fit_5 : Fit1 prog num (glob prog) F.tb 5 47 := fit_code F.tb_5 func47 ok_ticket_atom
theorem fit_6 : Fit1 prog num (glob prog) F.tb 6 81 := fit_code F.tb_6 func81 ok_term_Valid
theorem fit_7 : Fit1 prog num (glob prog) F.tb 7 106 := fit_code F.tb_7 func106 ok_term_check
theorem fit_8 : Fit1 prog num (glob prog) F.tb 8 125 := fit_code F.tb_8 func125 ok_term_isName
theorem fit_9 : Fit1 prog num (glob prog) F.tb 9 142 := fit_code F.tb_9 func142 ok_term_part
theorem fit_10 : Fit1 prog num (glob prog) F.tb 10 76 := fit_orc F.tb_10 (any_orc fun s c w h1 h2 h3 h4 => strings_ContainsAny_laid s c w h1 h2 h3 h4)
theorem fit_16 : Fit1 prog num (glob prog) F.tb 16 36 := fit_code F.tb_16 func36 ok_ticket_in
theorem fit_17 : Fit1 prog num (glob prog) F.tb 17 37 := fit_code F.tb_17 func37 ok_ticket_epochKey
theorem fit_18 : Fit1 prog num (glob prog) F.tb 18 77 := fit_orc F.tb_18 (itoa_orc fun n h0 h1 w ht => strconv_Itoa n h0 h1 w ht)
theorem fit_25 : Fit1 prog num (glob prog) F.tb 25 19 := fit_code F.tb_25 func19 ok_ticket_Issue
theorem fit_26 : Fit1 prog num (glob prog) F.tb 26 43 := fit_code F.tb_26 func43 ok_ticket_call
theorem fit_27 : Fit1 prog num (glob prog) F.tb 27 14 := fit_code F.tb_27 func14 ok_ticket_Valid
theorem fit_28 : Fit1 prog num (glob prog) F.tb 28 40 := fit_code F.tb_28 func40 ok_ticket_keys
theorem fit_29 : Fit1 prog num (glob prog) F.tb 29 68 := fit_code F.tb_29 func68 ok_ticket_same
theorem fit_30 : Fit1 prog num (glob prog) F.tb 30 99 := fit_code F.tb_30 func99 ok_term_Compare
theorem fit_31 : Fit1 prog num (glob prog) F.tb 31 114 := fit_code F.tb_31 func114 ok_term_Size
theorem fit_32 : Fit1 prog num (glob prog) F.tb 32 113 := fit_code F.tb_32 func113 ok_term_sign
theorem fit_33 : Fit1 prog num (glob prog) F.tb 33 115 := fit_orc F.tb_33 (cmp_orc fun a b w => strings_Compare a b w)
theorem fit_36 : Fit1 prog num (glob prog) F.tb 36 41 := fit_code F.tb_36 func41 ok_ticket_used
theorem fit_37 : Fit1 prog num (glob prog) F.tb 37 80 := fit_code F.tb_37 func80 ok_ticket_early
theorem fit_38 : Fit1 prog num (glob prog) F.tb 38 45 := fit_code F.tb_38 func45 ok_ticket_ticketKey
theorem fit_39 : Fit1 prog num (glob prog) F.tb 39 48 := fit_code F.tb_39 func48 ok_ticket_number
theorem fit_40 : Fit1 prog num (glob prog) F.tb 40 46 := fit_code F.tb_40 func46 ok_theory_Tuple
theorem fit_41 : Fit1 prog num (glob prog) F.tb 41 82 := fit_code F.tb_41 func82 ok_theory_Valid
theorem fit_42 : Fit1 prog num (glob prog) F.tb 42 107 := fit_code F.tb_42 func107 ok_theory_check
theorem fit_43 : Fit1 prog num (glob prog) F.tb 43 126 := fit_code F.tb_43 func126 ok_theory_symbol
theorem fit_44 : Fit1 prog num (glob prog) F.tb 44 143 := fit_code F.tb_44 func143 ok_theory_Symbols
theorem fit_45 : Fit1 prog num (glob prog) F.tb 45 157 := fit_code F.tb_45 func157 ok_theory_Symbols_c1
theorem fit_46 : Fit1 prog num (glob prog) F.tb 46 83 := fit_code F.tb_46 func83 ok_theory_copied
theorem fit_47 : Fit1 prog num (glob prog) F.tb 47 108 := fit_code F.tb_47 func108 ok_term_At
theorem fit_48 : Fit1 prog num (glob prog) F.tb 48 127 := fit_code F.tb_48 func127 ok_term_clone
theorem fit_49 : Fit1 prog num (glob prog) F.tb 49 84 := fit_code F.tb_49 func84 ok_theory_app
theorem fit_50 : Fit1 prog num (glob prog) F.tb 50 49 := fit_code F.tb_50 func49 ok_ticket_copied
theorem fit_51 : Fit1 prog num (glob prog) F.tb 51 50 := fit_orc F.tb_51 (clone_orc mixed enters func50 ok_slices_Clone_api_Epoch_api_Epoch)
theorem fit_52 : Fit1 prog num (glob prog) F.tb 52 51 := fit_orc F.tb_52 (clone_orc mixed enters func51 ok_slices_Clone_api_Used_api_Used)
theorem fit_53 : Fit1 prog num (glob prog) F.tb 53 34 := fit_code F.tb_53 func34 ok_sealringref01_Format
theorem fit_54 : Fit1 prog num (glob prog) F.tb 54 74 := fit_code F.tb_54 func74 ok_sealringref01_Valid
theorem fit_55 : Fit1 prog num (glob prog) F.tb 55 101 := fit_code F.tb_55 func101 ok_sealringref01_nodes
theorem fit_56 : Fit1 prog num (glob prog) F.tb 56 119 := fit_code F.tb_56 func119 ok_sealringref01_node
theorem fit_57 : Fit1 prog num (glob prog) F.tb 57 53 := fit_code F.tb_57 func53 ok_sealringref01_IsName
theorem fit_58 : Fit1 prog num (glob prog) F.tb 58 85 := fit_code F.tb_58 func85 ok_sealringref01_letter
theorem fit_59 : Fit1 prog num (glob prog) F.tb 59 86 := fit_code F.tb_59 func86 ok_sealringref01_digit
theorem fit_60 : Fit1 prog num (glob prog) F.tb 60 90 := fit_code F.tb_60 func90 ok_sealringref01_Size
theorem fit_61 : Fit1 prog num (glob prog) F.tb 61 102 := fit_code F.tb_61 func102 ok_sealringref01_Depth
theorem fit_62 : Fit1 prog num (glob prog) F.tb 62 75 := fit_code F.tb_62 func75 ok_sealringref01_Text
theorem fit_63 : Fit1 prog num (glob prog) F.tb 63 103 := fit_code F.tb_63 func103 ok_sealringref01_word
theorem fit_64 : Fit1 prog num (glob prog) F.tb 64 22 := fit_code F.tb_64 func22 ok_ticket_Rotate
theorem fit_65 : Fit1 prog num (glob prog) F.tb 65 49 := fit_code F.tb_65 func49 ok_ticket_copied_k
theorem fit_66 : Fit1 prog num (glob prog) F.tb 66 50 := fit_orc F.tb_66 (clone_orc mixed enters func50 ok_slices_Clone_api_Epoch_api_Epoch_g)
theorem fit_67 : Fit1 prog num (glob prog) F.tb 67 28 := fit_code F.tb_67 func28 ok_ticket_Resume
theorem fit_68 : Fit1 prog num (glob prog) F.tb 68 30 := fit_code F.tb_68 func30 ok_ticket_Read
theorem fit_69 : Fit1 prog num (glob prog) F.tb 69 65 := fit_code F.tb_69 func65 ok_ticket_parts
theorem fit_70 : Fit1 prog num (glob prog) F.tb 70 97 := fit_code F.tb_70 func97 ok_theory_Untuple
theorem fit_71 : Fit1 prog num (glob prog) F.tb 71 110 := fit_code F.tb_71 func110 ok_theory_is
theorem fit_72 : Fit1 prog num (glob prog) F.tb 72 98 := fit_code F.tb_72 func98 ok_ticket_read
theorem fit_73 : Fit1 prog num (glob prog) F.tb 73 111 := fit_code F.tb_73 func111 ok_strings_CutPrefix
theorem fit_74 : Fit1 prog num (glob prog) F.tb 74 129 := fit_code F.tb_74 func129 ok_internal_stringslite_CutPrefix
theorem fit_75 : Fit1 prog num (glob prog) F.tb 75 144 := fit_code F.tb_75 func144 ok_internal_stringslite_HasPrefix
theorem fit_76 : Fit1 prog num (glob prog) F.tb 76 112 := fit_orc F.tb_76 (atoi_orc (fun s hs v hv w => (strconv_Atoi_ok s hs v hv w).mono fun e w2 h => by obtain ⟨h1, h2⟩ := h; refine ⟨h1, ?_⟩; rcases h2 with rfl | ⟨t, rfl⟩; exact Go.RowKit.Below.refl _ _; exact Lib.bytesWorld_below _ _ _) (fun s hs hv tp p w hvar => (strconv_Atoi_syntax_var s hs hv tp p w hvar).mono fun e w2 h => by obtain ⟨N, h1, _, _, h4⟩ := h; exact ⟨_, _, h1, h4⟩) (fun s hs hv tp p w hvar => (strconv_Atoi_range_var s hs hv tp p w hvar).mono fun e w2 h => by obtain ⟨N, h1, _, _, h4⟩ := h; exact ⟨_, _, h1, h4⟩))
theorem fit_79 : Fit1 prog num (glob prog) F.tb 79 67 := fit_code F.tb_79 func67 ok_ticket_Read_c1
theorem fit_80 : Fit1 prog num (glob prog) F.tb 80 66 := fit_code F.tb_80 func66 ok_slices_ContainsFunc_api_Epoch_api_Epoch
theorem fit_81 : Fit1 prog num (glob prog) F.tb 81 91 := fit_code F.tb_81 func91 ok_slices_IndexFunc_api_Epoch_api_Epoch
theorem fit_82 : Fit1 prog num (glob prog) F.tb 82 62 := fit_code F.tb_82 func62 ok_ticket_accept
theorem fit_83 : Fit1 prog num (glob prog) F.tb 83 63 := fit_code F.tb_83 func63 ok_ticket_place
theorem fit_84 : Fit1 prog num (glob prog) F.tb 84 94 := fit_code F.tb_84 func94 ok_ticket_place_c1
theorem fit_85 : Fit1 prog num (glob prog) F.tb 85 93 := fit_code F.tb_85 func93 ok_slices_BinarySearchFunc_api_Used_api_Used_int
theorem fit_86 : Fit1 prog num (glob prog) F.tb 86 49 := fit_code F.tb_86 func49 ok_ticket_copied_u
theorem fit_87 : Fit1 prog num (glob prog) F.tb 87 51 := fit_orc F.tb_87 (clone_orc mixed enters func51 ok_slices_Clone_api_Used_api_Used_g)
theorem fit_89 : Fit1 prog num (glob prog) F.tb 89 24 := fit_code F.tb_89 func24 ok_sealringref01_Same
theorem fit_90 : Fit1 prog num (glob prog) F.tb 90 56 := fit_code F.tb_90 func56 ok_sealringref01_Compare
theorem fit_91 : Fit1 prog num (glob prog) F.tb 91 89 := fit_code F.tb_91 func89 ok_sealringref01_number
theorem fit_92 : Fit1 prog num (glob prog) F.tb 92 25 := fit_code F.tb_92 func25 ok_ticket_Expire
theorem fit_93 : Fit1 prog num (glob prog) F.tb 93 49 := fit_code F.tb_93 func49 ok_ticket_copied_ku
theorem fit_94 : Fit1 prog num (glob prog) F.tb 94 58 := fit_code F.tb_94 func58 ok_ticket_Expire_c1
theorem fit_96 : Fit1 prog num (glob prog) F.tb 96 60 := fit_code F.tb_96 func60 ok_ticket_Expire_c2
theorem fit_99 : Fit1 prog num (glob prog) F.tb 99 17 := fit_code F.tb_99 func17 ok_ticket_Knows
theorem fit_100 : Fit1 prog num (glob prog) F.tb 100 10 := fit_code F.tb_100 func10 ok_sealringref54_Few
theorem fit_101 : Fit1 prog num (glob prog) F.tb 101 27 := fit_code F.tb_101 func27 ok_sealringref01_Few
theorem fit_102 : Fit1 prog num (glob prog) F.tb 102 61 := fit_code F.tb_102 func61 ok_sealringref01_budget
theorem fit_103 : Fit1 prog num (glob prog) F.tb 103 12 := fit_code F.tb_103 func12 ok_sealringref54_New
theorem fit_104 : Fit1 prog num (glob prog) F.tb 104 38 := fit_code F.tb_104 func38 ok_sealringref54_rightName
theorem fit_105 : Fit1 prog num (glob prog) F.tb 105 39 := fit_code F.tb_105 func39 ok_sealringref54_EpochKey
theorem fit_106 : Fit1 prog num (glob prog) F.tb 106 79 := fit_code F.tb_106 func79 ok_sealringref54_digits
theorem fit_107 : Fit1 prog num (glob prog) F.tb 107 78 := fit_code F.tb_107 func78 ok_sealringref01_Atom
theorem fit_108 : Fit1 prog num (glob prog) F.tb 108 13 := fit_code F.tb_108 func13 ok_sealringref54_Same
theorem fit_109 : Fit1 prog num (glob prog) F.tb 109 15 := fit_code F.tb_109 func15 ok_sealringref54_Valid
theorem fit_110 : Fit1 prog num (glob prog) F.tb 110 42 := fit_code F.tb_110 func42 ok_sealringref54_rightKeys
theorem fit_111 : Fit1 prog num (glob prog) F.tb 111 18 := fit_code F.tb_111 func18 ok_sealringref54_Knows
theorem fit_112 : Fit1 prog num (glob prog) F.tb 112 16 := fit_code F.tb_112 func16 ok_sealringref01_Lists
theorem fit_113 : Fit1 prog num (glob prog) F.tb 113 4 := fit_code F.tb_113 func4 ok_sealringlaw54_TicketIssue
theorem fit_114 : Fit1 prog num (glob prog) F.tb 114 20 := fit_code F.tb_114 func20 ok_sealringlaw54_own
theorem fit_115 : Fit1 prog num (glob prog) F.tb 115 21 := fit_code F.tb_115 func21 ok_sealringref54_Issue
theorem fit_116 : Fit1 prog num (glob prog) F.tb 116 52 := fit_code F.tb_116 func52 ok_sealringref54_called
theorem fit_117 : Fit1 prog num (glob prog) F.tb 117 54 := fit_code F.tb_117 func54 ok_sealringref54_TicketKey
theorem fit_118 : Fit1 prog num (glob prog) F.tb 118 55 := fit_code F.tb_118 func55 ok_sealringref54_Written
theorem fit_119 : Fit1 prog num (glob prog) F.tb 119 88 := fit_code F.tb_119 func88 ok_sealringref54_Number
theorem fit_120 : Fit1 prog num (glob prog) F.tb 120 87 := fit_code F.tb_120 func87 ok_sealringref01_App
theorem fit_121 : Fit1 prog num (glob prog) F.tb 121 23 := fit_code F.tb_121 func23 ok_sealringref54_Rotate
theorem fit_122 : Fit1 prog num (glob prog) F.tb 122 26 := fit_code F.tb_122 func26 ok_sealringref54_Expire
theorem fit_123 : Fit1 prog num (glob prog) F.tb 123 5 := fit_code F.tb_123 func5 ok_sealringlaw54_TicketResume
theorem fit_124 : Fit1 prog num (glob prog) F.tb 124 29 := fit_code F.tb_124 func29 ok_sealringref54_Resume
theorem fit_125 : Fit1 prog num (glob prog) F.tb 125 31 := fit_code F.tb_125 func31 ok_sealringref54_Read
theorem fit_126 : Fit1 prog num (glob prog) F.tb 126 69 := fit_code F.tb_126 func69 ok_sealringref09_Valid
theorem fit_127 : Fit1 prog num (glob prog) F.tb 127 100 := fit_code F.tb_127 func100 ok_sealringref09_nodes
theorem fit_128 : Fit1 prog num (glob prog) F.tb 128 116 := fit_code F.tb_128 func116 ok_sealringref09_Kind
theorem fit_129 : Fit1 prog num (glob prog) F.tb 129 133 := fit_code F.tb_129 func133 ok_sealringref09_Symbols
theorem fit_130 : Fit1 prog num (glob prog) F.tb 130 117 := fit_code F.tb_130 func117 ok_sealringref09_fits
theorem fit_131 : Fit1 prog num (glob prog) F.tb 131 118 := fit_code F.tb_131 func118 ok_sealringref09_agents
theorem fit_132 : Fit1 prog num (glob prog) F.tb 132 70 := fit_code F.tb_132 func70 ok_sealringref09_Is
theorem fit_133 : Fit1 prog num (glob prog) F.tb 133 71 := fit_code F.tb_133 func71 ok_sealringref09_Untuple
theorem fit_134 : Fit1 prog num (glob prog) F.tb 134 72 := fit_code F.tb_134 func72 ok_sealringref54_number
theorem fit_135 : Fit1 prog num (glob prog) F.tb 135 73 := fit_code F.tb_135 func73 ok_sealringref54_has
theorem fit_136 : Fit1 prog num (glob prog) F.tb 136 6 := fit_code F.tb_136 func6 ok_sealringlaw54_TicketPlay
theorem fit_137 : Fit1 prog num (glob prog) F.tb 137 32 := fit_code F.tb_137 func32 ok_sealringref54_Played
theorem fit_138 : Fit1 prog num (glob prog) F.tb 138 33 := fit_code F.tb_138 func33 ok_sealringref54_Next
theorem fit_139 : Fit1 prog num (glob prog) F.tb 139 8 := fit_code F.tb_139 func8 ok_sealringlaw54_TicketKept
theorem fit_140 : Fit1 prog num (glob prog) F.tb 140 7 := fit_code F.tb_140 func7 ok_sealringlaw54_TicketOnce
theorem fit_141 : Fit1 prog num (glob prog) F.tb 141 64 := fit_orc F.tb_141 (ins_orc ok_slices_Insert_api_Used_api_Used_a0 func64)
theorem fit_142 : Fit1 prog num (glob prog) F.tb 142 57 := fit_code F.tb_142 func57 ok_slices_DeleteFunc_api_Epoch_api_Epoch_a0
theorem fit_143 : Fit1 prog num (glob prog) F.tb 143 91 := fit_code F.tb_143 func91 ok_slices_IndexFunc_api_Epoch_api_Epoch_a0
theorem fit_144 : Fit1 prog num (glob prog) F.tb 144 59 := fit_code F.tb_144 func59 ok_slices_DeleteFunc_api_Used_api_Used_a0
theorem fit_145 : Fit1 prog num (glob prog) F.tb 145 92 := fit_code F.tb_145 func92 ok_slices_IndexFunc_api_Used_api_Used_a0
theorem fits : Fits prog num (glob prog) F.tb := fits_of mixed enters (fcons fit_0 (fcons fit_1 (fcons fit_2 (fcons fit_3 (fcons fit_4 (fcons fit_5 (fcons fit_6 (fcons fit_7 (fcons fit_8 (fcons fit_9 (fcons fit_10 (fcons fit_16 (fcons fit_17 (fcons fit_18 (fcons fit_25 (fcons fit_26 (fcons fit_27 (fcons fit_28 (fcons fit_29 (fcons fit_30 (fcons fit_31 (fcons fit_32 (fcons fit_33 (fcons fit_36 (fcons fit_37 (fcons fit_38 (fcons fit_39 (fcons fit_40 (fcons fit_41 (fcons fit_42 (fcons fit_43 (fcons fit_44 (fcons fit_45 (fcons fit_46 (fcons fit_47 (fcons fit_48 (fcons fit_49 (fcons fit_50 (fcons fit_51 (fcons fit_52 (fcons fit_53 (fcons fit_54 (fcons fit_55 (fcons fit_56 (fcons fit_57 (fcons fit_58 (fcons fit_59 (fcons fit_60 (fcons fit_61 (fcons fit_62 (fcons fit_63 (fcons fit_64 (fcons fit_65 (fcons fit_66 (fcons fit_67 (fcons fit_68 (fcons fit_69 (fcons fit_70 (fcons fit_71 (fcons fit_72 (fcons fit_73 (fcons fit_74 (fcons fit_75 (fcons fit_76 (fcons fit_79 (fcons fit_80 (fcons fit_81 (fcons fit_82 (fcons fit_83 (fcons fit_84 (fcons fit_85 (fcons fit_86 (fcons fit_87 (fcons fit_89 (fcons fit_90 (fcons fit_91 (fcons fit_92 (fcons fit_93 (fcons fit_94 (fcons fit_96 (fcons fit_99 (fcons fit_100 (fcons fit_101 (fcons fit_102 (fcons fit_103 (fcons fit_104 (fcons fit_105 (fcons fit_106 (fcons fit_107 (fcons fit_108 (fcons fit_109 (fcons fit_110 (fcons fit_111 (fcons fit_112 (fcons fit_113 (fcons fit_114 (fcons fit_115 (fcons fit_116 (fcons fit_117 (fcons fit_118 (fcons fit_119 (fcons fit_120 (fcons fit_121 (fcons fit_122 (fcons fit_123 (fcons fit_124 (fcons fit_125 (fcons fit_126 (fcons fit_127 (fcons fit_128 (fcons fit_129 (fcons fit_130 (fcons fit_131 (fcons fit_132 (fcons fit_133 (fcons fit_134 (fcons fit_135 (fcons fit_136 (fcons fit_137 (fcons fit_138 (fcons fit_139 (fcons fit_140 (fcons fit_141 (fcons fit_142 (fcons fit_143 (fcons fit_144 (fcons fit_145 (fnil))))))))))))))))))))))))))))))))))))))))))))))))))))))))))))))))))))))))))))))))))))))))))))))))))))))))))))))))))))))))))))))))
end Go.Am.Chk
