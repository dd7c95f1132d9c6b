/-
  AmCheck.
-/
import Derived.Test.YteahheknpdcoeaaGreatDoorG26
import Derived.Test.YteahheknpdcoeaaGreatDoorG15
import Derived.Test.YteahheknpdcoeaaGreatDoorG10
import Derived.WalkKit
import Derived.Test.YteahheknpdcoeaaGreatDoorShelf
import Derived.Test.YteahheknpdcoeaaGreatDoorProg
set_option linter.unusedVariables false
set_option linter.unusedSimpArgs false
namespace Go.Am.Chk
open Go.Proofs.Tryz
def numL : List (Nat × Nat) := [(6, 38), (7, 90), (8, 151), (9, 222), (18, 204), (30, 40), (31, 95), (32, 94), (33, 96), (41, 41), (42, 97), (43, 102), (44, 159), (45, 235), (47, 85), (48, 147), (49, 248), (54, 44), (55, 103), (56, 160), (57, 210), (58, 273), (59, 274), (60, 104), (61, 105), (63, 275), (71, 237), (73, 92), (74, 153), (75, 224), (89, 21), (90, 46), (91, 107), (101, 16), (102, 48), (112, 15), (120, 119), (126, 57), (127, 116), (128, 59), (129, 117), (130, 174), (131, 175), (132, 126), (150, 3), (151, 9), (152, 34), (153, 84), (154, 146), (155, 209), (156, 211), (157, 11), (158, 13), (159, 39), (160, 91), (161, 152), (162, 223), (163, 93), (164, 154), (165, 42), (166, 98), (167, 157), (168, 156), (169, 158), (170, 88), (171, 234), (172, 233), (173, 43), (174, 49), (175, 109), (176, 162), (177, 99), (178, 163), (179, 238), (180, 246), (181, 289), (182, 240), (183, 239), (184, 241), (185, 285), (186, 164), (187, 242), (188, 286), (189, 287), (190, 308), (191, 307), (192, 244), (193, 288), (194, 309), (195, 310), (196, 165), (197, 243), (198, 245), (199, 166), (200, 247), (201, 290), (202, 291), (203, 312), (204, 311), (205, 332), (206, 101), (207, 100), (208, 35), (209, 36), (210, 86), (211, 87), (212, 148), (213, 68), (214, 112), (215, 167), (216, 87), (217, 112), (218, 167), (219, 17), (220, 19), (221, 56), (222, 110), (223, 139), (224, 115), (225, 50), (226, 51), (227, 111), (228, 10), (229, 12), (230, 14), (231, 45), (232, 106), (233, 47), (234, 108), (235, 161), (236, 236), (237, 58), (238, 67), (239, 124), (240, 70), (241, 52), (242, 113), (243, 168), (244, 169), (245, 249), (246, 189), (247, 188), (248, 250), (249, 292), (250, 61), (251, 251), (252, 170), (253, 133), (254, 198), (255, 261), (256, 199), (257, 258), (258, 252), (259, 257), (260, 293), (261, 171), (262, 193), (263, 259), (264, 37), (265, 89)]
def num : Nat → Option Nat := fun f => numL.lookup f
theorem ok_term_Valid : okFun prog num F.f6 f38 = true := by kernel_rfl
theorem ok_term_check : okFun prog num F.f7 f90 = true := by kernel_rfl
theorem ok_term_isName : okFun prog num F.f8 f151 = true := by kernel_rfl
theorem ok_term_part : okFun prog num F.f9 f222 = true := by kernel_rfl
theorem ok_term_Compare : okFun prog num F.f30 f40 = true := by kernel_rfl
theorem ok_term_Size : okFun prog num F.f31 f95 = true := by kernel_rfl
theorem ok_term_sign : okFun prog num F.f32 f94 = true := by kernel_rfl
theorem ok_theory_Valid : okFun prog num F.f41 f41 = true := by kernel_rfl
theorem ok_theory_check : okFun prog num F.f42 f97 = true := by kernel_rfl
theorem ok_theory_symbol : okFun prog num F.f43 f102 = true := by kernel_rfl
theorem ok_theory_Symbols : okFun prog num F.f44 f159 = true := by kernel_rfl
theorem ok_theory_Symbols_c1 : okFun prog num F.f45 f235 = true := by kernel_rfl
theorem ok_term_At : okFun prog num F.f47 f85 = true := by kernel_rfl
theorem ok_term_clone : okFun prog num F.f48 f147 = true := by kernel_rfl
theorem ok_theory_app : okFun prog num F.f49 f248 = true := by kernel_rfl
theorem ok_sealringref01_Valid : okFun prog num F.f54 f44 = true := by kernel_rfl
theorem ok_sealringref01_nodes : okFun prog num F.f55 f103 = true := by kernel_rfl
theorem ok_sealringref01_node : okFun prog num F.f56 f160 = true := by kernel_rfl
theorem ok_sealringref01_IsName : okFun prog num F.f57 f210 = true := by kernel_rfl
theorem ok_sealringref01_letter : okFun prog num F.f58 f273 = true := by kernel_rfl
theorem ok_sealringref01_digit : okFun prog num F.f59 f274 = true := by kernel_rfl
theorem ok_sealringref01_Size : okFun prog num F.f60 f104 = true := by kernel_rfl
theorem ok_sealringref01_Depth : okFun prog num F.f61 f105 = true := by kernel_rfl
theorem ok_sealringref01_word : okFun prog num F.f63 f275 = true := by kernel_rfl
theorem ok_theory_is : okFun prog num F.f71 f237 = true := by kernel_rfl
theorem ok_strings_CutPrefix : okFun prog num F.f73 f92 = true := by kernel_rfl
theorem ok_internal_stringslite_CutPrefix : okFun prog num F.f74 f153 = true := by kernel_rfl
theorem ok_internal_stringslite_HasPrefix : okFun prog num F.f75 f224 = true := by kernel_rfl
theorem ok_sealringref01_Same : okFun prog num F.f89 f21 = true := by kernel_rfl
theorem ok_sealringref01_Compare : okFun prog num F.f90 f46 = true := by kernel_rfl
theorem ok_sealringref01_number : okFun prog num F.f91 f107 = true := by kernel_rfl
theorem ok_sealringref01_Few : okFun prog num F.f101 f16 = true := by kernel_rfl
theorem ok_sealringref01_budget : okFun prog num F.f102 f48 = true := by kernel_rfl
theorem ok_sealringref01_Lists : okFun prog num F.f112 f15 = true := by kernel_rfl
theorem ok_sealringref01_App : okFun prog num F.f120 f119 = true := by kernel_rfl
theorem ok_sealringref09_Valid : okFun prog num F.f126 f57 = true := by kernel_rfl
theorem ok_sealringref09_nodes : okFun prog num F.f127 f116 = true := by kernel_rfl
theorem ok_sealringref09_Kind : okFun prog num F.f128 f59 = true := by kernel_rfl
theorem ok_sealringref09_Symbols : okFun prog num F.f129 f117 = true := by kernel_rfl
theorem ok_sealringref09_fits : okFun prog num F.f130 f174 = true := by kernel_rfl
theorem ok_sealringref09_agents : okFun prog num F.f131 f175 = true := by kernel_rfl
theorem ok_sealringref09_Is : okFun prog num F.f132 f126 = true := by kernel_rfl
theorem ok_sealringlaw13_RecipeValid : okFun prog num F.f150 f3 = true := by kernel_rfl
theorem ok_sealringlaw13_awake : okFun prog num F.f151 f9 = true := by kernel_rfl
theorem ok_sealringlaw13_parse : okFun prog num F.f152 f34 = true := by kernel_rfl
theorem ok_sealringref01_Parse : okFun prog num F.f153 f84 = true := by kernel_rfl
theorem ok_sealringref01_read : okFun prog num F.f154 f146 = true := by kernel_rfl
theorem ok_sealringref01_name : okFun prog num F.f155 f209 = true := by kernel_rfl
theorem ok_sealringref01_leaf : okFun prog num F.f156 f211 = true := by kernel_rfl
theorem ok_recipe_Givens : okFun prog num F.f157 f11 = true := by kernel_rfl
theorem ok_recipe_Valid : okFun prog num F.f158 f13 = true := by kernel_rfl
theorem ok_knowledge_Public : okFun prog num F.f159 f39 = true := by kernel_rfl
theorem ok_knowledge_is : okFun prog num F.f160 f91 = true := by kernel_rfl
theorem ok_slices_Contains_string_string : okFun prog num F.f161 f152 = true := by kernel_rfl
theorem ok_slices_Index_string_string : okFun prog num F.f162 f223 = true := by kernel_rfl
theorem ok_knowledge_digits : okFun prog num F.f163 f93 = true := by kernel_rfl
theorem ok_term_Vars : okFun prog num F.f165 f42 = true := by kernel_rfl
theorem ok_term_ofKind : okFun prog num F.f166 f98 = true := by kernel_rfl
theorem ok_term_ofKind_c1 : okFun prog num F.f167 f157 = true := by kernel_rfl
theorem ok_term_walk : okFun prog num F.f168 f156 = true := by kernel_rfl
theorem ok_term_ordered_a0 : okFun prog num F.f169 f158 = true := by kernel_rfl
theorem ok_term_ordered_c1 : okFun prog num F.f171 f234 = true := by kernel_rfl
theorem ok_slices_CompactFunc_api_Term_api_Term_g_a0 : okFun prog num F.f172 f233 = true := by kernel_rfl
theorem ok_theory_Plain : okFun prog num F.f173 f43 = true := by kernel_rfl
theorem ok_theory_Normal : okFun prog num F.f174 f49 = true := by kernel_rfl
theorem ok_theory_normal : okFun prog num F.f175 f109 = true := by kernel_rfl
theorem ok_theory_destroy : okFun prog num F.f176 f162 = true := by kernel_rfl
theorem ok_theory_same : okFun prog num F.f177 f99 = true := by kernel_rfl
theorem ok_xor_Sum : okFun prog num F.f178 f163 = true := by kernel_rfl
theorem ok_xor_right : okFun prog num F.f179 f238 = true := by kernel_rfl
theorem ok_slices_Concat_api_Term_api_Term : okFun prog num F.f180 f246 = true := by kernel_rfl
theorem ok_xor_summands : okFun prog num F.f182 f240 = true := by kernel_rfl
theorem ok_xor_plus : okFun prog num F.f183 f239 = true := by kernel_rfl
theorem ok_xor_own : okFun prog num F.f184 f241 = true := by kernel_rfl
theorem ok_term_Replace : okFun prog num F.f185 f285 = true := by kernel_rfl
theorem ok_exponent_Of : okFun prog num F.f186 f164 = true := by kernel_rfl
theorem ok_exponent_collect_g_a0 : okFun prog num F.f187 f242 = true := by kernel_rfl
theorem ok_exponent_symbol : okFun prog num F.f188 f286 = true := by kernel_rfl
theorem ok_exponent_insert_g_a0 : okFun prog num F.f189 f287 = true := by kernel_rfl
theorem ok_exponent_insert_c1 : okFun prog num F.f190 f308 = true := by kernel_rfl
theorem ok_slices_BinarySearchFunc_api_Power_api_Power_api_Term_a0 : okFun prog num F.f191 f307 = true := by kernel_rfl
theorem ok_exponent_clone : okFun prog num F.f192 f244 = true := by kernel_rfl
theorem ok_slices_Delete_api_Power_api_Power_g_a0 : okFun prog num F.f195 f310 = true := by kernel_rfl
theorem ok_exponent_Term : okFun prog num F.f196 f165 = true := by kernel_rfl
theorem ok_exponent_valid : okFun prog num F.f197 f243 = true := by kernel_rfl
theorem ok_exponent_app : okFun prog num F.f198 f245 = true := by kernel_rfl
theorem ok_theory_raise : okFun prog num F.f199 f166 = true := by kernel_rfl
theorem ok_exponent_Mul : okFun prog num F.f200 f247 = true := by kernel_rfl
theorem ok_exponent_copied_g : okFun prog num F.f201 f290 = true := by kernel_rfl
theorem ok_exponent_result_a0 : okFun prog num F.f202 f291 = true := by kernel_rfl
theorem ok_exponent_result_c1 : okFun prog num F.f203 f312 = true := by kernel_rfl
theorem ok_slices_ContainsFunc_api_Power_api_Power_a0 : okFun prog num F.f204 f311 = true := by kernel_rfl
theorem ok_slices_IndexFunc_api_Power_api_Power_a0 : okFun prog num F.f205 f332 = true := by kernel_rfl
theorem ok_theory_Plain_c1 : okFun prog num F.f206 f101 = true := by kernel_rfl
theorem ok_theory_every : okFun prog num F.f207 f100 = true := by kernel_rfl
theorem ok_recipe_copied : okFun prog num F.f208 f35 = true := by kernel_rfl
theorem ok_recipe_free : okFun prog num F.f209 f36 = true := by kernel_rfl
theorem ok_term_Atoms : okFun prog num F.f210 f86 = true := by kernel_rfl
theorem ok_recipe_has : okFun prog num F.f211 f87 = true := by kernel_rfl
theorem ok_recipe_has_c1 : okFun prog num F.f212 f148 = true := by kernel_rfl
theorem ok_recipe_same : okFun prog num F.f213 f68 = true := by kernel_rfl
theorem ok_slices_ContainsFunc_api_Term_api_Term : okFun prog num F.f214 f112 = true := by kernel_rfl
theorem ok_slices_IndexFunc_api_Term_api_Term : okFun prog num F.f215 f167 = true := by kernel_rfl
theorem ok_recipe_has_a0 : okFun prog num F.f216 f87 = true := by kernel_rfl
theorem ok_slices_ContainsFunc_api_Term_api_Term_a0 : okFun prog num F.f217 f112 = true := by kernel_rfl
theorem ok_slices_IndexFunc_api_Term_api_Term_a0 : okFun prog num F.f218 f167 = true := by kernel_rfl
theorem ok_recipe_Value : okFun prog num F.f219 f17 = true := by kernel_rfl
theorem ok_recipe_Right : okFun prog num F.f220 f19 = true := by kernel_rfl
theorem ok_recipe_first : okFun prog num F.f221 f56 = true := by kernel_rfl
theorem ok_recipe_index : okFun prog num F.f222 f110 = true := by kernel_rfl
theorem ok_recipe_handle : okFun prog num F.f223 f139 = true := by kernel_rfl
theorem ok_recipe_private : okFun prog num F.f224 f115 = true := by kernel_rfl
theorem ok_recipe_put : okFun prog num F.f225 f50 = true := by kernel_rfl
theorem ok_recipe_stuck : okFun prog num F.f226 f51 = true := by kernel_rfl
theorem ok_recipe_destructor : okFun prog num F.f227 f111 = true := by kernel_rfl
theorem ok_sealringref13_Few : okFun prog num F.f228 f10 = true := by kernel_rfl
theorem ok_sealringref13_Givens : okFun prog num F.f229 f12 = true := by kernel_rfl
theorem ok_sealringref13_Valid : okFun prog num F.f230 f14 = true := by kernel_rfl
theorem ok_sealringref10_Public : okFun prog num F.f231 f45 = true := by kernel_rfl
theorem ok_sealringref10_own : okFun prog num F.f232 f106 = true := by kernel_rfl
theorem ok_sealringref10_Right : okFun prog num F.f233 f47 = true := by kernel_rfl
theorem ok_sealringref01_Ground : okFun prog num F.f234 f108 = true := by kernel_rfl
theorem ok_sealringref01_Vars : okFun prog num F.f235 f161 = true := by kernel_rfl
theorem ok_sealringref01_kind : okFun prog num F.f236 f236 = true := by kernel_rfl
theorem ok_sealringref01_All : okFun prog num F.f237 f58 = true := by kernel_rfl
theorem ok_sealringref01_Set : okFun prog num F.f238 f67 = true := by kernel_rfl
theorem ok_sealringref01_Add : okFun prog num F.f239 f124 = true := by kernel_rfl
theorem ok_sealringref09_Plain : okFun prog num F.f240 f70 = true := by kernel_rfl
theorem ok_sealringref09_Normal : okFun prog num F.f241 f52 = true := by kernel_rfl
theorem ok_sealringref09_normal : okFun prog num F.f242 f113 = true := by kernel_rfl
theorem ok_sealringref09_destroy : okFun prog num F.f243 f168 = true := by kernel_rfl
theorem ok_sealringref08_Sum : okFun prog num F.f244 f169 = true := by kernel_rfl
theorem ok_sealringref08_zero : okFun prog num F.f245 f249 = true := by kernel_rfl
theorem ok_sealringref08_valid : okFun prog num F.f246 f189 = true := by kernel_rfl
theorem ok_sealringref08_Summands : okFun prog num F.f247 f188 = true := by kernel_rfl
theorem ok_sealringref08_Plus : okFun prog num F.f248 f250 = true := by kernel_rfl
theorem ok_sealringref08_toggle : okFun prog num F.f249 f292 = true := by kernel_rfl
theorem ok_sealringref01_Has : okFun prog num F.f250 f61 = true := by kernel_rfl
theorem ok_sealringref08_Term : okFun prog num F.f251 f251 = true := by kernel_rfl
theorem ok_sealringref09_product : okFun prog num F.f252 f170 = true := by kernel_rfl
theorem ok_sealringref06_Of : okFun prog num F.f253 f133 = true := by kernel_rfl
theorem ok_sealringref06_arity : okFun prog num F.f254 f198 = true := by kernel_rfl
theorem ok_sealringref06_special : okFun prog num F.f255 f261 = true := by kernel_rfl
theorem ok_sealringref06_collect : okFun prog num F.f256 f199 = true := by kernel_rfl
theorem ok_sealringref06_add : okFun prog num F.f257 f258 = true := by kernel_rfl
theorem ok_sealringref06_Term : okFun prog num F.f258 f252 = true := by kernel_rfl
theorem ok_sealringref06_Valid : okFun prog num F.f259 f257 = true := by kernel_rfl
theorem ok_sealringref06_operands : okFun prog num F.f260 f293 = true := by kernel_rfl
theorem ok_sealringref09_power : okFun prog num F.f261 f171 = true := by kernel_rfl
theorem ok_sealringref06_Mul : okFun prog num F.f262 f193 = true := by kernel_rfl
theorem ok_sealringref06_inRange : okFun prog num F.f263 f259 = true := by kernel_rfl
theorem ok_sealringref13_Free : okFun prog num F.f264 f37 = true := by kernel_rfl
theorem ok_sealringref01_Subterms : okFun prog num F.f265 f89 = true := by kernel_rfl
theorem ok_slices_Clone_api_Term_api_Term_g : okClone prog num true 56 4 f288 = true := by kernel_rfl
theorem mixed0 : prog.follows .mixedOrders = true := by kernel_rfl
def ren_194 : Go.Shelf.Ren := ⟨fun n => match n with | 29 => 330 | 30 => 331 | 22 => 309 | n => n, fun n => match n with | 24 => 133 | 9 => 187 | 3 => 3 | 4 => 4 | 0 => 0 | n => n, fun n => n⟩
theorem ok_slices_Insert_api_Power_api_Power_g_a0 : InsLay prog ren_194 f309 5 64 (.agg #[.int .i64 0, .string ⟨#[]⟩, .int .i64 0, .slice none 0 0, .int .i64 0]) where
 mixed := mixed0
 body := by kernel_rfl
 ntmps := by kernel_rfl
 res := by kernel_rfl
 f29 := fun args w => run_callFunc_extern (f := ren_194.f 29) (fn := f330) func330 (by kernel_rfl) (by kernel_rfl) (by kernel_rfl) (e := Extern.SlicesOverlaps.overlaps #[ren_194.t 24, ren_194.t 24] #[ren_194.t 4]) (by kernel_rfl) args w
 t0 := by kernel_rfl
 t3 := by kernel_rfl
 t4 := by kernel_rfl
 t24 := by kernel_rfl
 i9 := by kernel_rfl
 zc := by kernel_rfl
 a3 := fun w => run_isAgg (by kernel_rfl)
 a4 := fun w => run_isAgg (by kernel_rfl)
 a24 := fun w => run_isAgg (by kernel_rfl)
 z3 := fun w => run_sizeOf (by kernel_rfl)
 z4 := fun w => run_sizeOf (by kernel_rfl)
 z9 := fun w => run_sizeOf (by kernel_rfl)
 z24 := fun w => run_sizeOf (by kernel_rfl)
theorem ent_6 : Ent prog 38 := ent_of func38 (by kernel_rfl) (by kernel_rfl)
theorem ent_7 : Ent prog 90 := ent_of func90 (by kernel_rfl) (by kernel_rfl)
theorem ent_8 : Ent prog 151 := ent_of func151 (by kernel_rfl) (by kernel_rfl)
theorem ent_9 : Ent prog 222 := ent_of func222 (by kernel_rfl) (by kernel_rfl)
theorem ent_18 : Ent prog 204 := ent_of func204 (by kernel_rfl) (by kernel_rfl)
theorem ent_30 : Ent prog 40 := ent_of func40 (by kernel_rfl) (by kernel_rfl)
theorem ent_31 : Ent prog 95 := ent_of func95 (by kernel_rfl) (by kernel_rfl)
theorem ent_32 : Ent prog 94 := ent_of func94 (by kernel_rfl) (by kernel_rfl)
theorem ent_33 : Ent prog 96 := ent_of func96 (by kernel_rfl) (by kernel_rfl)
theorem ent_41 : Ent prog 41 := ent_of func41 (by kernel_rfl) (by kernel_rfl)
theorem ent_42 : Ent prog 97 := ent_of func97 (by kernel_rfl) (by kernel_rfl)
theorem ent_43 : Ent prog 102 := ent_of func102 (by kernel_rfl) (by kernel_rfl)
theorem ent_44 : Ent prog 159 := ent_of func159 (by kernel_rfl) (by kernel_rfl)
theorem ent_45 : Ent prog 235 := ent_of func235 (by kernel_rfl) (by kernel_rfl)
theorem ent_47 : Ent prog 85 := ent_of func85 (by kernel_rfl) (by kernel_rfl)
theorem ent_48 : Ent prog 147 := ent_of func147 (by kernel_rfl) (by kernel_rfl)
theorem ent_49 : Ent prog 248 := ent_of func248 (by kernel_rfl) (by kernel_rfl)
theorem ent_54 : Ent prog 44 := ent_of func44 (by kernel_rfl) (by kernel_rfl)
theorem ent_55 : Ent prog 103 := ent_of func103 (by kernel_rfl) (by kernel_rfl)
theorem ent_56 : Ent prog 160 := ent_of func160 (by kernel_rfl) (by kernel_rfl)
theorem ent_57 : Ent prog 210 := ent_of func210 (by kernel_rfl) (by kernel_rfl)
theorem ent_58 : Ent prog 273 := ent_of func273 (by kernel_rfl) (by kernel_rfl)
theorem ent_59 : Ent prog 274 := ent_of func274 (by kernel_rfl) (by kernel_rfl)
theorem ent_60 : Ent prog 104 := ent_of func104 (by kernel_rfl) (by kernel_rfl)
theorem ent_61 : Ent prog 105 := ent_of func105 (by kernel_rfl) (by kernel_rfl)
theorem ent_63 : Ent prog 275 := ent_of func275 (by kernel_rfl) (by kernel_rfl)
theorem ent_71 : Ent prog 237 := ent_of func237 (by kernel_rfl) (by kernel_rfl)
theorem ent_73 : Ent prog 92 := ent_of func92 (by kernel_rfl) (by kernel_rfl)
theorem ent_74 : Ent prog 153 := ent_of func153 (by kernel_rfl) (by kernel_rfl)
theorem ent_75 : Ent prog 224 := ent_of func224 (by kernel_rfl) (by kernel_rfl)
theorem ent_89 : Ent prog 21 := ent_of func21 (by kernel_rfl) (by kernel_rfl)
theorem ent_90 : Ent prog 46 := ent_of func46 (by kernel_rfl) (by kernel_rfl)
theorem ent_91 : Ent prog 107 := ent_of func107 (by kernel_rfl) (by kernel_rfl)
theorem ent_101 : Ent prog 16 := ent_of func16 (by kernel_rfl) (by kernel_rfl)
theorem ent_102 : Ent prog 48 := ent_of func48 (by kernel_rfl) (by kernel_rfl)
theorem ent_112 : Ent prog 15 := ent_of func15 (by kernel_rfl) (by kernel_rfl)
theorem ent_120 : Ent prog 119 := ent_of func119 (by kernel_rfl) (by kernel_rfl)
theorem ent_126 : Ent prog 57 := ent_of func57 (by kernel_rfl) (by kernel_rfl)
theorem ent_127 : Ent prog 116 := ent_of func116 (by kernel_rfl) (by kernel_rfl)
theorem ent_128 : Ent prog 59 := ent_of func59 (by kernel_rfl) (by kernel_rfl)
theorem ent_129 : Ent prog 117 := ent_of func117 (by kernel_rfl) (by kernel_rfl)
theorem ent_130 : Ent prog 174 := ent_of func174 (by kernel_rfl) (by kernel_rfl)
theorem ent_131 : Ent prog 175 := ent_of func175 (by kernel_rfl) (by kernel_rfl)
theorem ent_132 : Ent prog 126 := ent_of func126 (by kernel_rfl) (by kernel_rfl)
theorem ent_150 : Ent prog 3 := ent_of func3 (by kernel_rfl) (by kernel_rfl)
theorem ent_151 : Ent prog 9 := ent_of func9 (by kernel_rfl) (by kernel_rfl)
theorem ent_152 : Ent prog 34 := ent_of func34 (by kernel_rfl) (by kernel_rfl)
theorem ent_153 : Ent prog 84 := ent_of func84 (by kernel_rfl) (by kernel_rfl)
theorem ent_154 : Ent prog 146 := ent_of func146 (by kernel_rfl) (by kernel_rfl)
theorem ent_155 : Ent prog 209 := ent_of func209 (by kernel_rfl) (by kernel_rfl)
theorem ent_156 : Ent prog 211 := ent_of func211 (by kernel_rfl) (by kernel_rfl)
theorem ent_157 : Ent prog 11 := ent_of func11 (by kernel_rfl) (by kernel_rfl)
theorem ent_158 : Ent prog 13 := ent_of func13 (by kernel_rfl) (by kernel_rfl)
theorem ent_159 : Ent prog 39 := ent_of func39 (by kernel_rfl) (by kernel_rfl)
theorem ent_160 : Ent prog 91 := ent_of func91 (by kernel_rfl) (by kernel_rfl)
theorem ent_161 : Ent prog 152 := ent_of func152 (by kernel_rfl) (by kernel_rfl)
theorem ent_162 : Ent prog 223 := ent_of func223 (by kernel_rfl) (by kernel_rfl)
theorem ent_163 : Ent prog 93 := ent_of func93 (by kernel_rfl) (by kernel_rfl)
theorem ent_164 : Ent prog 154 := ent_of func154 (by kernel_rfl) (by kernel_rfl)
theorem ent_165 : Ent prog 42 := ent_of func42 (by kernel_rfl) (by kernel_rfl)
theorem ent_166 : Ent prog 98 := ent_of func98 (by kernel_rfl) (by kernel_rfl)
theorem ent_167 : Ent prog 157 := ent_of func157 (by kernel_rfl) (by kernel_rfl)
theorem ent_168 : Ent prog 156 := ent_of func156 (by kernel_rfl) (by kernel_rfl)
theorem ent_169 : Ent prog 158 := ent_of func158 (by kernel_rfl) (by kernel_rfl)
theorem ent_170 : Ent prog 88 := ent_of func88 (by kernel_rfl) (by kernel_rfl)
theorem ent_171 : Ent prog 234 := ent_of func234 (by kernel_rfl) (by kernel_rfl)
theorem ent_172 : Ent prog 233 := ent_of func233 (by kernel_rfl) (by kernel_rfl)
theorem ent_173 : Ent prog 43 := ent_of func43 (by kernel_rfl) (by kernel_rfl)
theorem ent_174 : Ent prog 49 := ent_of func49 (by kernel_rfl) (by kernel_rfl)
theorem ent_175 : Ent prog 109 := ent_of func109 (by kernel_rfl) (by kernel_rfl)
theorem ent_176 : Ent prog 162 := ent_of func162 (by kernel_rfl) (by kernel_rfl)
theorem ent_177 : Ent prog 99 := ent_of func99 (by kernel_rfl) (by kernel_rfl)
theorem ent_178 : Ent prog 163 := ent_of func163 (by kernel_rfl) (by kernel_rfl)
theorem ent_179 : Ent prog 238 := ent_of func238 (by kernel_rfl) (by kernel_rfl)
theorem ent_180 : Ent prog 246 := ent_of func246 (by kernel_rfl) (by kernel_rfl)
theorem ent_181 : Ent prog 289 := ent_of func289 (by kernel_rfl) (by kernel_rfl)
theorem ent_182 : Ent prog 240 := ent_of func240 (by kernel_rfl) (by kernel_rfl)
theorem ent_183 : Ent prog 239 := ent_of func239 (by kernel_rfl) (by kernel_rfl)
theorem ent_184 : Ent prog 241 := ent_of func241 (by kernel_rfl) (by kernel_rfl)
theorem ent_185 : Ent prog 285 := ent_of func285 (by kernel_rfl) (by kernel_rfl)
theorem ent_186 : Ent prog 164 := ent_of func164 (by kernel_rfl) (by kernel_rfl)
theorem ent_187 : Ent prog 242 := ent_of func242 (by kernel_rfl) (by kernel_rfl)
theorem ent_188 : Ent prog 286 := ent_of func286 (by kernel_rfl) (by kernel_rfl)
theorem ent_189 : Ent prog 287 := ent_of func287 (by kernel_rfl) (by kernel_rfl)
theorem ent_190 : Ent prog 308 := ent_of func308 (by kernel_rfl) (by kernel_rfl)
theorem ent_191 : Ent prog 307 := ent_of func307 (by kernel_rfl) (by kernel_rfl)
theorem ent_192 : Ent prog 244 := ent_of func244 (by kernel_rfl) (by kernel_rfl)
theorem ent_193 : Ent prog 288 := ent_of func288 (by kernel_rfl) (by kernel_rfl)
theorem ent_194 : Ent prog 309 := ent_of func309 (by kernel_rfl) (by kernel_rfl)
theorem ent_195 : Ent prog 310 := ent_of func310 (by kernel_rfl) (by kernel_rfl)
theorem ent_196 : Ent prog 165 := ent_of func165 (by kernel_rfl) (by kernel_rfl)
theorem ent_197 : Ent prog 243 := ent_of func243 (by kernel_rfl) (by kernel_rfl)
theorem ent_198 : Ent prog 245 := ent_of func245 (by kernel_rfl) (by kernel_rfl)
theorem ent_199 : Ent prog 166 := ent_of func166 (by kernel_rfl) (by kernel_rfl)
theorem ent_200 : Ent prog 247 := ent_of func247 (by kernel_rfl) (by kernel_rfl)
theorem ent_201 : Ent prog 290 := ent_of func290 (by kernel_rfl) (by kernel_rfl)
theorem ent_202 : Ent prog 291 := ent_of func291 (by kernel_rfl) (by kernel_rfl)
theorem ent_203 : Ent prog 312 := ent_of func312 (by kernel_rfl) (by kernel_rfl)
theorem ent_204 : Ent prog 311 := ent_of func311 (by kernel_rfl) (by kernel_rfl)
theorem ent_205 : Ent prog 332 := ent_of func332 (by kernel_rfl) (by kernel_rfl)
theorem ent_206 : Ent prog 101 := ent_of func101 (by kernel_rfl) (by kernel_rfl)
theorem ent_207 : Ent prog 100 := ent_of func100 (by kernel_rfl) (by kernel_rfl)
theorem ent_208 : Ent prog 35 := ent_of func35 (by kernel_rfl) (by kernel_rfl)
theorem ent_209 : Ent prog 36 := ent_of func36 (by kernel_rfl) (by kernel_rfl)
theorem ent_210 : Ent prog 86 := ent_of func86 (by kernel_rfl) (by kernel_rfl)
theorem ent_211 : Ent prog 87 := ent_of func87 (by kernel_rfl) (by kernel_rfl)
theorem ent_212 : Ent prog 148 := ent_of func148 (by kernel_rfl) (by kernel_rfl)
theorem ent_213 : Ent prog 68 := ent_of func68 (by kernel_rfl) (by kernel_rfl)
theorem ent_214 : Ent prog 112 := ent_of func112 (by kernel_rfl) (by kernel_rfl)
theorem ent_215 : Ent prog 167 := ent_of func167 (by kernel_rfl) (by kernel_rfl)
theorem ent_216 : Ent prog 87 := ent_of func87 (by kernel_rfl) (by kernel_rfl)
theorem ent_217 : Ent prog 112 := ent_of func112 (by kernel_rfl) (by kernel_rfl)
theorem ent_218 : Ent prog 167 := ent_of func167 (by kernel_rfl) (by kernel_rfl)
theorem ent_219 : Ent prog 17 := ent_of func17 (by kernel_rfl) (by kernel_rfl)
theorem ent_220 : Ent prog 19 := ent_of func19 (by kernel_rfl) (by kernel_rfl)
theorem ent_221 : Ent prog 56 := ent_of func56 (by kernel_rfl) (by kernel_rfl)
theorem ent_222 : Ent prog 110 := ent_of func110 (by kernel_rfl) (by kernel_rfl)
theorem ent_223 : Ent prog 139 := ent_of func139 (by kernel_rfl) (by kernel_rfl)
theorem ent_224 : Ent prog 115 := ent_of func115 (by kernel_rfl) (by kernel_rfl)
theorem ent_225 : Ent prog 50 := ent_of func50 (by kernel_rfl) (by kernel_rfl)
theorem ent_226 : Ent prog 51 := ent_of func51 (by kernel_rfl) (by kernel_rfl)
theorem ent_227 : Ent prog 111 := ent_of func111 (by kernel_rfl) (by kernel_rfl)
theorem ent_228 : Ent prog 10 := ent_of func10 (by kernel_rfl) (by kernel_rfl)
theorem ent_229 : Ent prog 12 := ent_of func12 (by kernel_rfl) (by kernel_rfl)
theorem ent_230 : Ent prog 14 := ent_of func14 (by kernel_rfl) (by kernel_rfl)
theorem ent_231 : Ent prog 45 := ent_of func45 (by kernel_rfl) (by kernel_rfl)
theorem ent_232 : Ent prog 106 := ent_of func106 (by kernel_rfl) (by kernel_rfl)
theorem ent_233 : Ent prog 47 := ent_of func47 (by kernel_rfl) (by kernel_rfl)
theorem ent_234 : Ent prog 108 := ent_of func108 (by kernel_rfl) (by kernel_rfl)
theorem ent_235 : Ent prog 161 := ent_of func161 (by kernel_rfl) (by kernel_rfl)
theorem ent_236 : Ent prog 236 := ent_of func236 (by kernel_rfl) (by kernel_rfl)
theorem ent_237 : Ent prog 58 := ent_of func58 (by kernel_rfl) (by kernel_rfl)
theorem ent_238 : Ent prog 67 := ent_of func67 (by kernel_rfl) (by kernel_rfl)
theorem ent_239 : Ent prog 124 := ent_of func124 (by kernel_rfl) (by kernel_rfl)
theorem ent_240 : Ent prog 70 := ent_of func70 (by kernel_rfl) (by kernel_rfl)
theorem ent_241 : Ent prog 52 := ent_of func52 (by kernel_rfl) (by kernel_rfl)
theorem ent_242 : Ent prog 113 := ent_of func113 (by kernel_rfl) (by kernel_rfl)
theorem ent_243 : Ent prog 168 := ent_of func168 (by kernel_rfl) (by kernel_rfl)
theorem ent_244 : Ent prog 169 := ent_of func169 (by kernel_rfl) (by kernel_rfl)
theorem ent_245 : Ent prog 249 := ent_of func249 (by kernel_rfl) (by kernel_rfl)
theorem ent_246 : Ent prog 189 := ent_of func189 (by kernel_rfl) (by kernel_rfl)
theorem ent_247 : Ent prog 188 := ent_of func188 (by kernel_rfl) (by kernel_rfl)
theorem ent_248 : Ent prog 250 := ent_of func250 (by kernel_rfl) (by kernel_rfl)
theorem ent_249 : Ent prog 292 := ent_of func292 (by kernel_rfl) (by kernel_rfl)
theorem ent_250 : Ent prog 61 := ent_of func61 (by kernel_rfl) (by kernel_rfl)
theorem ent_251 : Ent prog 251 := ent_of func251 (by kernel_rfl) (by kernel_rfl)
theorem ent_252 : Ent prog 170 := ent_of func170 (by kernel_rfl) (by kernel_rfl)
theorem ent_253 : Ent prog 133 := ent_of func133 (by kernel_rfl) (by kernel_rfl)
theorem ent_254 : Ent prog 198 := ent_of func198 (by kernel_rfl) (by kernel_rfl)
theorem ent_255 : Ent prog 261 := ent_of func261 (by kernel_rfl) (by kernel_rfl)
theorem ent_256 : Ent prog 199 := ent_of func199 (by kernel_rfl) (by kernel_rfl)
theorem ent_257 : Ent prog 258 := ent_of func258 (by kernel_rfl) (by kernel_rfl)
theorem ent_258 : Ent prog 252 := ent_of func252 (by kernel_rfl) (by kernel_rfl)
theorem ent_259 : Ent prog 257 := ent_of func257 (by kernel_rfl) (by kernel_rfl)
theorem ent_260 : Ent prog 293 := ent_of func293 (by kernel_rfl) (by kernel_rfl)
theorem ent_261 : Ent prog 171 := ent_of func171 (by kernel_rfl) (by kernel_rfl)
theorem ent_262 : Ent prog 193 := ent_of func193 (by kernel_rfl) (by kernel_rfl)
theorem ent_263 : Ent prog 259 := ent_of func259 (by kernel_rfl) (by kernel_rfl)
theorem ent_264 : Ent prog 37 := ent_of func37 (by kernel_rfl) (by kernel_rfl)
theorem ent_265 : Ent prog 89 := ent_of func89 (by kernel_rfl) (by kernel_rfl)
theorem enters [Dr] : Enters prog num := enters_of (fcons ent_6 (fcons ent_7 (fcons ent_8 (fcons ent_9 (fcons ent_18 (fcons ent_30 (fcons ent_31 (fcons ent_32 (fcons ent_33 (fcons ent_41 (fcons ent_42 (fcons ent_43 (fcons ent_44 (fcons ent_45 (fcons ent_47 (fcons ent_48 (fcons ent_49 (fcons ent_54 (fcons ent_55 (fcons ent_56 (fcons ent_57 (fcons ent_58 (fcons ent_59 (fcons ent_60 (fcons ent_61 (fcons ent_63 (fcons ent_71 (fcons ent_73 (fcons ent_74 (fcons ent_75 (fcons ent_89 (fcons ent_90 (fcons ent_91 (fcons ent_101 (fcons ent_102 (fcons ent_112 (fcons ent_120 (fcons ent_126 (fcons ent_127 (fcons ent_128 (fcons ent_129 (fcons ent_130 (fcons ent_131 (fcons ent_132 (fcons ent_150 (fcons ent_151 (fcons ent_152 (fcons ent_153 (fcons ent_154 (fcons ent_155 (fcons ent_156 (fcons ent_157 (fcons ent_158 (fcons ent_159 (fcons ent_160 (fcons ent_161 (fcons ent_162 (fcons ent_163 (fcons ent_164 (fcons ent_165 (fcons ent_166 (fcons ent_167 (fcons ent_168 (fcons ent_169 (fcons ent_170 (fcons ent_171 (fcons ent_172 (fcons ent_173 (fcons ent_174 (fcons ent_175 (fcons ent_176 (fcons ent_177 (fcons ent_178 (fcons ent_179 (fcons ent_180 (fcons ent_181 (fcons ent_182 (fcons ent_183 (fcons ent_184 (fcons ent_185 (fcons ent_186 (fcons ent_187 (fcons ent_188 (fcons ent_189 (fcons ent_190 (fcons ent_191 (fcons ent_192 (fcons ent_193 (fcons ent_194 (fcons ent_195 (fcons ent_196 (fcons ent_197 (fcons ent_198 (fcons ent_199 (fcons ent_200 (fcons ent_201 (fcons ent_202 (fcons ent_203 (fcons ent_204 (fcons ent_205 (fcons ent_206 (fcons ent_207 (fcons ent_208 (fcons ent_209 (fcons ent_210 (fcons ent_211 (fcons ent_212 (fcons ent_213 (fcons ent_214 (fcons ent_215 (fcons ent_216 (fcons ent_217 (fcons ent_218 (fcons ent_219 (fcons ent_220 (fcons ent_221 (fcons ent_222 (fcons ent_223 (fcons ent_224 (fcons ent_225 (fcons ent_226 (fcons ent_227 (fcons ent_228 (fcons ent_229 (fcons ent_230 (fcons ent_231 (fcons ent_232 (fcons ent_233 (fcons ent_234 (fcons ent_235 (fcons ent_236 (fcons ent_237 (fcons ent_238 (fcons ent_239 (fcons ent_240 (fcons ent_241 (fcons ent_242 (fcons ent_243 (fcons ent_244 (fcons ent_245 (fcons ent_246 (fcons ent_247 (fcons ent_248 (fcons ent_249 (fcons ent_250 (fcons ent_251 (fcons ent_252 (fcons ent_253 (fcons ent_254 (fcons ent_255 (fcons ent_256 (fcons ent_257 (fcons ent_258 (fcons ent_259 (fcons ent_260 (fcons ent_261 (fcons ent_262 (fcons ent_263 (fcons ent_264 (fcons ent_265 (fnil)))))))))))))))))))))))))))))))))))))))))))))))))))))))))))))))))))))))))))))))))))))))))))))))))))))))))))))))))))))))))))))))))))))))))))))))))))))))))))))))))
theorem mixed : prog.follows .mixedOrders = true := by kernel_rfl
section
attribute [local instance] drT
theorem fitS_6 : Fit1 prog num globT S.tb 6 38 := fit_none rfl
theorem fitS_7 : Fit1 prog num globT S.tb 7 90 := fit_none rfl
theorem fitS_8 : Fit1 prog num globT S.tb 8 151 := fit_none rfl
theorem fitS_9 : Fit1 prog num globT S.tb 9 222 := fit_none rfl
theorem fitS_18 : Fit1 prog num globT S.tb 18 204 := fit_none rfl
theorem fitS_30 : Fit1 prog num globT S.tb 30 40 := fit_code S.tb_30 func40 ok_term_Compare
theorem fitS_31 : Fit1 prog num globT S.tb 31 95 := fit_code S.tb_31 func95 ok_term_Size
theorem fitS_32 : Fit1 prog num globT S.tb 32 94 := fit_code S.tb_32 func94 ok_term_sign
theorem fitS_33 : Fit1 prog num globT S.tb 33 96 := fit_orc S.tb_33 (cmp_orc fun a b w => strings_Compare a b w)
theorem fitS_41 : Fit1 prog num globT S.tb 41 41 := fit_none rfl
theorem fitS_42 : Fit1 prog num globT S.tb 42 97 := fit_none rfl
theorem fitS_43 : Fit1 prog num globT S.tb 43 102 := fit_none rfl
theorem fitS_44 : Fit1 prog num globT S.tb 44 159 := fit_none rfl
theorem fitS_45 : Fit1 prog num globT S.tb 45 235 := fit_none rfl
theorem fitS_47 : Fit1 prog num globT S.tb 47 85 := fit_none rfl
theorem fitS_48 : Fit1 prog num globT S.tb 48 147 := fit_none rfl
theorem fitS_49 : Fit1 prog num globT S.tb 49 248 := fit_none rfl
theorem fitS_54 : Fit1 prog num globT S.tb 54 44 := fit_none rfl
theorem fitS_55 : Fit1 prog num globT S.tb 55 103 := fit_none rfl
theorem fitS_56 : Fit1 prog num globT S.tb 56 160 := fit_none rfl
theorem fitS_57 : Fit1 prog num globT S.tb 57 210 := fit_none rfl
theorem fitS_58 : Fit1 prog num globT S.tb 58 273 := fit_none rfl
theorem fitS_59 : Fit1 prog num globT S.tb 59 274 := fit_none rfl
theorem fitS_60 : Fit1 prog num globT S.tb 60 104 := fit_none rfl
theorem fitS_61 : Fit1 prog num globT S.tb 61 105 := fit_none rfl
theorem fitS_63 : Fit1 prog num globT S.tb 63 275 := fit_none rfl
theorem fitS_71 : Fit1 prog num globT S.tb 71 237 := fit_none rfl
theorem fitS_73 : Fit1 prog num globT S.tb 73 92 := fit_none rfl
theorem fitS_74 : Fit1 prog num globT S.tb 74 153 := fit_none rfl
theorem fitS_75 : Fit1 prog num globT S.tb 75 224 := fit_none rfl
theorem fitS_89 : Fit1 prog num globT S.tb 89 21 := fit_none rfl
theorem fitS_90 : Fit1 prog num globT S.tb 90 46 := fit_none rfl
theorem fitS_91 : Fit1 prog num globT S.tb 91 107 := fit_none rfl
theorem fitS_101 : Fit1 prog num globT S.tb 101 16 := fit_none rfl
theorem fitS_102 : Fit1 prog num globT S.tb 102 48 := fit_none rfl
theorem fitS_112 : Fit1 prog num globT S.tb 112 15 := fit_none rfl
theorem fitS_120 : Fit1 prog num globT S.tb 120 119 := fit_none rfl
theorem fitS_126 : Fit1 prog num globT S.tb 126 57 := fit_none rfl
theorem fitS_127 : Fit1 prog num globT S.tb 127 116 := fit_none rfl
theorem fitS_128 : Fit1 prog num globT S.tb 128 59 := fit_none rfl
theorem fitS_129 : Fit1 prog num globT S.tb 129 117 := fit_none rfl
theorem fitS_130 : Fit1 prog num globT S.tb 130 174 := fit_none rfl
theorem fitS_131 : Fit1 prog num globT S.tb 131 175 := fit_none rfl
theorem fitS_132 : Fit1 prog num globT S.tb 132 126 := fit_none rfl
theorem fitS_150 : Fit1 prog num globT S.tb 150 3 := fit_none rfl
theorem fitS_151 : Fit1 prog num globT S.tb 151 9 := fit_none rfl
theorem fitS_152 : Fit1 prog num globT S.tb 152 34 := fit_none rfl
theorem fitS_153 : Fit1 prog num globT S.tb 153 84 := fit_none rfl
theorem fitS_154 : Fit1 prog num globT S.tb 154 146 := fit_none rfl
theorem fitS_155 : Fit1 prog num globT S.tb 155 209 := fit_none rfl
theorem fitS_156 : Fit1 prog num globT S.tb 156 211 := fit_none rfl
theorem fitS_157 : Fit1 prog num globT S.tb 157 11 := fit_none rfl
theorem fitS_158 : Fit1 prog num globT S.tb 158 13 := fit_none rfl
theorem fitS_159 : Fit1 prog num globT S.tb 159 39 := fit_none rfl
theorem fitS_160 : Fit1 prog num globT S.tb 160 91 := fit_none rfl
theorem fitS_161 : Fit1 prog num globT S.tb 161 152 := fit_none rfl
theorem fitS_162 : Fit1 prog num globT S.tb 162 223 := fit_none rfl
theorem fitS_163 : Fit1 prog num globT S.tb 163 93 := fit_none rfl
theorem fitS_164 : Fit1 prog num globT S.tb 164 154 := fit_none rfl
theorem fitS_165 : Fit1 prog num globT S.tb 165 42 := fit_none rfl
theorem fitS_166 : Fit1 prog num globT S.tb 166 98 := fit_none rfl
theorem fitS_167 : Fit1 prog num globT S.tb 167 157 := fit_none rfl
theorem fitS_168 : Fit1 prog num globT S.tb 168 156 := fit_none rfl
theorem fitS_169 : Fit1 prog num globT S.tb 169 158 := fit_none rfl
theorem fitS_170 : Fit1 prog num globT S.tb 170 88 := fit_none rfl
theorem fitS_171 : Fit1 prog num globT S.tb 171 234 := fit_none rfl
theorem fitS_172 : Fit1 prog num globT S.tb 172 233 := fit_none rfl
theorem fitS_173 : Fit1 prog num globT S.tb 173 43 := fit_none rfl
theorem fitS_174 : Fit1 prog num globT S.tb 174 49 := fit_none rfl
theorem fitS_175 : Fit1 prog num globT S.tb 175 109 := fit_none rfl
theorem fitS_176 : Fit1 prog num globT S.tb 176 162 := fit_none rfl
theorem fitS_177 : Fit1 prog num globT S.tb 177 99 := fit_none rfl
theorem fitS_178 : Fit1 prog num globT S.tb 178 163 := fit_none rfl
theorem fitS_179 : Fit1 prog num globT S.tb 179 238 := fit_none rfl
theorem fitS_180 : Fit1 prog num globT S.tb 180 246 := fit_none rfl
theorem fitS_181 : Fit1 prog num globT S.tb 181 289 := fit_none rfl
theorem fitS_182 : Fit1 prog num globT S.tb 182 240 := fit_none rfl
theorem fitS_183 : Fit1 prog num globT S.tb 183 239 := fit_none rfl
theorem fitS_184 : Fit1 prog num globT S.tb 184 241 := fit_none rfl
theorem fitS_185 : Fit1 prog num globT S.tb 185 285 := fit_none rfl
theorem fitS_186 : Fit1 prog num globT S.tb 186 164 := fit_none rfl
theorem fitS_187 : Fit1 prog num globT S.tb 187 242 := fit_none rfl
theorem fitS_188 : Fit1 prog num globT S.tb 188 286 := fit_none rfl
theorem fitS_189 : Fit1 prog num globT S.tb 189 287 := fit_none rfl
theorem fitS_190 : Fit1 prog num globT S.tb 190 308 := fit_none rfl
theorem fitS_191 : Fit1 prog num globT S.tb 191 307 := fit_none rfl
theorem fitS_192 : Fit1 prog num globT S.tb 192 244 := fit_none rfl
theorem fitS_193 : Fit1 prog num globT S.tb 193 288 := fit_none rfl
theorem fitS_194 : Fit1 prog num globT S.tb 194 309 := fit_none rfl
theorem fitS_195 : Fit1 prog num globT S.tb 195 310 := fit_none rfl
theorem fitS_196 : Fit1 prog num globT S.tb 196 165 := fit_none rfl
theorem fitS_197 : Fit1 prog num globT S.tb 197 243 := fit_none rfl
theorem fitS_198 : Fit1 prog num globT S.tb 198 245 := fit_none rfl
theorem fitS_199 : Fit1 prog num globT S.tb 199 166 := fit_none rfl
theorem fitS_200 : Fit1 prog num globT S.tb 200 247 := fit_none rfl
theorem fitS_201 : Fit1 prog num globT S.tb 201 290 := fit_none rfl
theorem fitS_202 : Fit1 prog num globT S.tb 202 291 := fit_none rfl
theorem fitS_203 : Fit1 prog num globT S.tb 203 312 := fit_none rfl
theorem fitS_204 : Fit1 prog num globT S.tb 204 311 := fit_none rfl
theorem fitS_205 : Fit1 prog num globT S.tb 205 332 := fit_none rfl
theorem fitS_206 : Fit1 prog num globT S.tb 206 101 := fit_none rfl
theorem fitS_207 : Fit1 prog num globT S.tb 207 100 := fit_none rfl
theorem fitS_208 : Fit1 prog num globT S.tb 208 35 := fit_none rfl
theorem fitS_209 : Fit1 prog num globT S.tb 209 36 := fit_none rfl
theorem fitS_210 : Fit1 prog num globT S.tb 210 86 := fit_none rfl
theorem fitS_211 : Fit1 prog num globT S.tb 211 87 := fit_none rfl
theorem fitS_212 : Fit1 prog num globT S.tb 212 148 := fit_none rfl
theorem fitS_213 : Fit1 prog num globT S.tb 213 68 := fit_none rfl
theorem fitS_214 : Fit1 prog num globT S.tb 214 112 := fit_none rfl
theorem fitS_215 : Fit1 prog num globT S.tb 215 167 := fit_none rfl
theorem fitS_216 : Fit1 prog num globT S.tb 216 87 := fit_none rfl
theorem fitS_217 : Fit1 prog num globT S.tb 217 112 := fit_none rfl
theorem fitS_218 : Fit1 prog num globT S.tb 218 167 := fit_none rfl
theorem fitS_219 : Fit1 prog num globT S.tb 219 17 := fit_none rfl
theorem fitS_220 : Fit1 prog num globT S.tb 220 19 := fit_none rfl
theorem fitS_221 : Fit1 prog num globT S.tb 221 56 := fit_none rfl
theorem fitS_222 : Fit1 prog num globT S.tb 222 110 := fit_none rfl
theorem fitS_223 : Fit1 prog num globT S.tb 223 139 := fit_none rfl
theorem fitS_224 : Fit1 prog num globT S.tb 224 115 := fit_none rfl
theorem fitS_225 : Fit1 prog num globT S.tb 225 50 := fit_none rfl
theorem fitS_226 : Fit1 prog num globT S.tb 226 51 := fit_none rfl
theorem fitS_227 : Fit1 prog num globT S.tb 227 111 := fit_none rfl
theorem fitS_228 : Fit1 prog num globT S.tb 228 10 := fit_none rfl
theorem fitS_229 : Fit1 prog num globT S.tb 229 12 := fit_none rfl
theorem fitS_230 : Fit1 prog num globT S.tb 230 14 := fit_none rfl
theorem fitS_231 : Fit1 prog num globT S.tb 231 45 := fit_none rfl
theorem fitS_232 : Fit1 prog num globT S.tb 232 106 := fit_none rfl
theorem fitS_233 : Fit1 prog num globT S.tb 233 47 := fit_none rfl
theorem fitS_234 : Fit1 prog num globT S.tb 234 108 := fit_none rfl
theorem fitS_235 : Fit1 prog num globT S.tb 235 161 := fit_none rfl
theorem fitS_236 : Fit1 prog num globT S.tb 236 236 := fit_none rfl
theorem fitS_237 : Fit1 prog num globT S.tb 237 58 := fit_none rfl
theorem fitS_238 : Fit1 prog num globT S.tb 238 67 := fit_none rfl
theorem fitS_239 : Fit1 prog num globT S.tb 239 124 := fit_none rfl
theorem fitS_240 : Fit1 prog num globT S.tb 240 70 := fit_none rfl
theorem fitS_241 : Fit1 prog num globT S.tb 241 52 := fit_none rfl
theorem fitS_242 : Fit1 prog num globT S.tb 242 113 := fit_none rfl
theorem fitS_243 : Fit1 prog num globT S.tb 243 168 := fit_none rfl
theorem fitS_244 : Fit1 prog num globT S.tb 244 169 := fit_none rfl
theorem fitS_245 : Fit1 prog num globT S.tb 245 249 := fit_none rfl
theorem fitS_246 : Fit1 prog num globT S.tb 246 189 := fit_none rfl
theorem fitS_247 : Fit1 prog num globT S.tb 247 188 := fit_none rfl
theorem fitS_248 : Fit1 prog num globT S.tb 248 250 := fit_none rfl
theorem fitS_249 : Fit1 prog num globT S.tb 249 292 := fit_none rfl
theorem fitS_250 : Fit1 prog num globT S.tb 250 61 := fit_none rfl
theorem fitS_251 : Fit1 prog num globT S.tb 251 251 := fit_none rfl
theorem fitS_252 : Fit1 prog num globT S.tb 252 170 := fit_none rfl
theorem fitS_253 : Fit1 prog num globT S.tb 253 133 := fit_none rfl
theorem fitS_254 : Fit1 prog num globT S.tb 254 198 := fit_none rfl
theorem fitS_255 : Fit1 prog num globT S.tb 255 261 := fit_none rfl
theorem fitS_256 : Fit1 prog num globT S.tb 256 199 := fit_none rfl
theorem fitS_257 : Fit1 prog num globT S.tb 257 258 := fit_none rfl
theorem fitS_258 : Fit1 prog num globT S.tb 258 252 := fit_none rfl
theorem fitS_259 : Fit1 prog num globT S.tb 259 257 := fit_none rfl
theorem fitS_260 : Fit1 prog num globT S.tb 260 293 := fit_none rfl
theorem fitS_261 : Fit1 prog num globT S.tb 261 171 := fit_none rfl
theorem fitS_262 : Fit1 prog num globT S.tb 262 193 := fit_none rfl
theorem fitS_263 : Fit1 prog num globT S.tb 263 259 := fit_none rfl
theorem fitS_264 : Fit1 prog num globT S.tb 264 37 := fit_none rfl
theorem fitS_265 : Fit1 prog num globT S.tb 265 89 := fit_none rfl
theorem fitsS : Fits prog num globT S.tb := fits_of mixed enters (fcons fitS_6 (fcons fitS_7 (fcons fitS_8 (fcons fitS_9 (fcons fitS_18 (fcons fitS_30 (fcons fitS_31 (fcons fitS_32 (fcons fitS_33 (fcons fitS_41 (fcons fitS_42 (fcons fitS_43 (fcons fitS_44 (fcons fitS_45 (fcons fitS_47 (fcons fitS_48 (fcons fitS_49 (fcons fitS_54 (fcons fitS_55 (fcons fitS_56 (fcons fitS_57 (fcons fitS_58 (fcons fitS_59 (fcons fitS_60 (fcons fitS_61 (fcons fitS_63 (fcons fitS_71 (fcons fitS_73 (fcons fitS_74 (fcons fitS_75 (fcons fitS_89 (fcons fitS_90 (fcons fitS_91 (fcons fitS_101 (fcons fitS_102 (fcons fitS_112 (fcons fitS_120 (fcons fitS_126 (fcons fitS_127 (fcons fitS_128 (fcons fitS_129 (fcons fitS_130 (fcons fitS_131 (fcons fitS_132 (fcons fitS_150 (fcons fitS_151 (fcons fitS_152 (fcons fitS_153 (fcons fitS_154 (fcons fitS_155 (fcons fitS_156 (fcons fitS_157 (fcons fitS_158 (fcons fitS_159 (fcons fitS_160 (fcons fitS_161 (fcons fitS_162 (fcons fitS_163 (fcons fitS_164 (fcons fitS_165 (fcons fitS_166 (fcons fitS_167 (fcons fitS_168 (fcons fitS_169 (fcons fitS_170 (fcons fitS_171 (fcons fitS_172 (fcons fitS_173 (fcons fitS_174 (fcons fitS_175 (fcons fitS_176 (fcons fitS_177 (fcons fitS_178 (fcons fitS_179 (fcons fitS_180 (fcons fitS_181 (fcons fitS_182 (fcons fitS_183 (fcons fitS_184 (fcons fitS_185 (fcons fitS_186 (fcons fitS_187 (fcons fitS_188 (fcons fitS_189 (fcons fitS_190 (fcons fitS_191 (fcons fitS_192 (fcons fitS_193 (fcons fitS_194 (fcons fitS_195 (fcons fitS_196 (fcons fitS_197 (fcons fitS_198 (fcons fitS_199 (fcons fitS_200 (fcons fitS_201 (fcons fitS_202 (fcons fitS_203 (fcons fitS_204 (fcons fitS_205 (fcons fitS_206 (fcons fitS_207 (fcons fitS_208 (fcons fitS_209 (fcons fitS_210 (fcons fitS_211 (fcons fitS_212 (fcons fitS_213 (fcons fitS_214 (fcons fitS_215 (fcons fitS_216 (fcons fitS_217 (fcons fitS_218 (fcons fitS_219 (fcons fitS_220 (fcons fitS_221 (fcons fitS_222 (fcons fitS_223 (fcons fitS_224 (fcons fitS_225 (fcons fitS_226 (fcons fitS_227 (fcons fitS_228 (fcons fitS_229 (fcons fitS_230 (fcons fitS_231 (fcons fitS_232 (fcons fitS_233 (fcons fitS_234 (fcons fitS_235 (fcons fitS_236 (fcons fitS_237 (fcons fitS_238 (fcons fitS_239 (fcons fitS_240 (fcons fitS_241 (fcons fitS_242 (fcons fitS_243 (fcons fitS_244 (fcons fitS_245 (fcons fitS_246 (fcons fitS_247 (fcons fitS_248 (fcons fitS_249 (fcons fitS_250 (fcons fitS_251 (fcons fitS_252 (fcons fitS_253 (fcons fitS_254 (fcons fitS_255 (fcons fitS_256 (fcons fitS_257 (fcons fitS_258 (fcons fitS_259 (fcons fitS_260 (fcons fitS_261 (fcons fitS_262 (fcons fitS_263 (fcons fitS_264 (fcons fitS_265 (fnil)))))))))))))))))))))))))))))))))))))))))))))))))))))))))))))))))))))))))))))))))))))))))))))))))))))))))))))))))))))))))))))))))))))))))))))))))))))))))))))))))
end
theorem cmpC : CmpC prog num 40 := cmpC_of (by kernel_rfl) fitsS
instance drF : Dr := ⟨False⟩
theorem hD : ¬ Dr.d := fun h => h
theorem fit_6 : Fit1 prog num (glob prog) F.tb 6 38 := fit_code F.tb_6 func38 ok_term_Valid
theorem fit_7 : Fit1 prog num (glob prog) F.tb 7 90 := fit_code F.tb_7 func90 ok_term_check
theorem fit_8 : Fit1 prog num (glob prog) F.tb 8 151 := fit_code F.tb_8 func151 ok_term_isName
theorem fit_9 : Fit1 prog num (glob prog) F.tb 9 222 := fit_code F.tb_9 func222 ok_term_part
theorem fit_18 : Fit1 prog num (glob prog) F.tb 18 204 := fit_orc F.tb_18 (itoa_orc fun n h0 h1 w ht => strconv_Itoa n h0 h1 w ht)
theorem fit_30 : Fit1 prog num (glob prog) F.tb 30 40 := fit_code F.tb_30 func40 ok_term_Compare
theorem fit_31 : Fit1 prog num (glob prog) F.tb 31 95 := fit_code F.tb_31 func95 ok_term_Size
theorem fit_32 : Fit1 prog num (glob prog) F.tb 32 94 := fit_code F.tb_32 func94 ok_term_sign
theorem fit_33 : Fit1 prog num (glob prog) F.tb 33 96 := fit_orc F.tb_33 (cmp_orc fun a b w => strings_Compare a b w)
theorem fit_41 : Fit1 prog num (glob prog) F.tb 41 41 := fit_code F.tb_41 func41 ok_theory_Valid
theorem fit_42 : Fit1 prog num (glob prog) F.tb 42 97 := fit_code F.tb_42 func97 ok_theory_check
theorem fit_43 : Fit1 prog num (glob prog) F.tb 43 102 := fit_code F.tb_43 func102 ok_theory_symbol
theorem fit_44 : Fit1 prog num (glob prog) F.tb 44 159 := fit_code F.tb_44 func159 ok_theory_Symbols
theorem fit_45 : Fit1 prog num (glob prog) F.tb 45 235 := fit_code F.tb_45 func235 ok_theory_Symbols_c1
theorem fit_47 : Fit1 prog num (glob prog) F.tb 47 85 := fit_code F.tb_47 func85 ok_term_At
theorem fit_48 : Fit1 prog num (glob prog) F.tb 48 147 := fit_code F.tb_48 func147 ok_term_clone
theorem fit_49 : Fit1 prog num (glob prog) F.tb 49 248 := fit_code F.tb_49 func248 ok_theory_app
theorem fit_54 : Fit1 prog num (glob prog) F.tb 54 44 := fit_code F.tb_54 func44 ok_sealringref01_Valid
theorem fit_55 : Fit1 prog num (glob prog) F.tb 55 103 := fit_code F.tb_55 func103 ok_sealringref01_nodes
theorem fit_56 : Fit1 prog num (glob prog) F.tb 56 160 := fit_code F.tb_56 func160 ok_sealringref01_node
theorem fit_57 : Fit1 prog num (glob prog) F.tb 57 210 := fit_code F.tb_57 func210 ok_sealringref01_IsName
theorem fit_58 : Fit1 prog num (glob prog) F.tb 58 273 := fit_code F.tb_58 func273 ok_sealringref01_letter
theorem fit_59 : Fit1 prog num (glob prog) F.tb 59 274 := fit_code F.tb_59 func274 ok_sealringref01_digit
theorem fit_60 : Fit1 prog num (glob prog) F.tb 60 104 := fit_code F.tb_60 func104 ok_sealringref01_Size
theorem fit_61 : Fit1 prog num (glob prog) F.tb 61 105 := fit_code F.tb_61 func105 ok_sealringref01_Depth
theorem fit_63 : Fit1 prog num (glob prog) F.tb 63 275 := fit_code F.tb_63 func275 ok_sealringref01_word
theorem fit_71 : Fit1 prog num (glob prog) F.tb 71 237 := fit_code F.tb_71 func237 ok_theory_is
theorem fit_73 : Fit1 prog num (glob prog) F.tb 73 92 := fit_code F.tb_73 func92 ok_strings_CutPrefix
theorem fit_74 : Fit1 prog num (glob prog) F.tb 74 153 := fit_code F.tb_74 func153 ok_internal_stringslite_CutPrefix
theorem fit_75 : Fit1 prog num (glob prog) F.tb 75 224 := fit_code F.tb_75 func224 ok_internal_stringslite_HasPrefix
theorem fit_89 : Fit1 prog num (glob prog) F.tb 89 21 := fit_code F.tb_89 func21 ok_sealringref01_Same
theorem fit_90 : Fit1 prog num (glob prog) F.tb 90 46 := fit_code F.tb_90 func46 ok_sealringref01_Compare
theorem fit_91 : Fit1 prog num (glob prog) F.tb 91 107 := fit_code F.tb_91 func107 ok_sealringref01_number
theorem fit_101 : Fit1 prog num (glob prog) F.tb 101 16 := fit_code F.tb_101 func16 ok_sealringref01_Few
theorem fit_102 : Fit1 prog num (glob prog) F.tb 102 48 := fit_code F.tb_102 func48 ok_sealringref01_budget
theorem fit_112 : Fit1 prog num (glob prog) F.tb 112 15 := fit_code F.tb_112 func15 ok_sealringref01_Lists
theorem fit_120 : Fit1 prog num (glob prog) F.tb 120 119 := fit_code F.tb_120 func119 ok_sealringref01_App
theorem fit_126 : Fit1 prog num (glob prog) F.tb 126 57 := fit_code F.tb_126 func57 ok_sealringref09_Valid
theorem fit_127 : Fit1 prog num (glob prog) F.tb 127 116 := fit_code F.tb_127 func116 ok_sealringref09_nodes
theorem fit_128 : Fit1 prog num (glob prog) F.tb 128 59 := fit_code F.tb_128 func59 ok_sealringref09_Kind
theorem fit_129 : Fit1 prog num (glob prog) F.tb 129 117 := fit_code F.tb_129 func117 ok_sealringref09_Symbols
theorem fit_130 : Fit1 prog num (glob prog) F.tb 130 174 := fit_code F.tb_130 func174 ok_sealringref09_fits
theorem fit_131 : Fit1 prog num (glob prog) F.tb 131 175 := fit_code F.tb_131 func175 ok_sealringref09_agents
theorem fit_132 : Fit1 prog num (glob prog) F.tb 132 126 := fit_code F.tb_132 func126 ok_sealringref09_Is
theorem fit_150 : Fit1 prog num (glob prog) F.tb 150 3 := fit_code F.tb_150 func3 ok_sealringlaw13_RecipeValid
theorem fit_151 : Fit1 prog num (glob prog) F.tb 151 9 := fit_code F.tb_151 func9 ok_sealringlaw13_awake
theorem fit_152 : Fit1 prog num (glob prog) F.tb 152 34 := fit_code F.tb_152 func34 ok_sealringlaw13_parse
theorem fit_153 : Fit1 prog num (glob prog) F.tb 153 84 := fit_code F.tb_153 func84 ok_sealringref01_Parse
theorem fit_154 : Fit1 prog num (glob prog) F.tb 154 146 := fit_code F.tb_154 func146 ok_sealringref01_read
theorem fit_155 : Fit1 prog num (glob prog) F.tb 155 209 := fit_code F.tb_155 func209 ok_sealringref01_name
theorem fit_156 : Fit1 prog num (glob prog) F.tb 156 211 := fit_code F.tb_156 func211 ok_sealringref01_leaf
theorem fit_157 : Fit1 prog num (glob prog) F.tb 157 11 := fit_code F.tb_157 func11 ok_recipe_Givens
theorem fit_158 : Fit1 prog num (glob prog) F.tb 158 13 := fit_code F.tb_158 func13 ok_recipe_Valid
theorem fit_159 : Fit1 prog num (glob prog) F.tb 159 39 := fit_code F.tb_159 func39 ok_knowledge_Public
theorem fit_160 : Fit1 prog num (glob prog) F.tb 160 91 := fit_code F.tb_160 func91 ok_knowledge_is
theorem fit_161 : Fit1 prog num (glob prog) F.tb 161 152 := fit_code F.tb_161 func152 ok_slices_Contains_string_string
theorem fit_162 : Fit1 prog num (glob prog) F.tb 162 223 := fit_code F.tb_162 func223 ok_slices_Index_string_string
theorem fit_163 : Fit1 prog num (glob prog) F.tb 163 93 := fit_code F.tb_163 func93 ok_knowledge_digits
theorem fit_164 : Fit1 prog num (glob prog) F.tb 164 154 := fit_orc F.tb_164 (trim_orc hD fun s c w h1 h2 h3 => Go.Proofs.Any.strings_Trim_laid lays160 (by kernel_rfl) s c w h1 h2 h3)
theorem fit_165 : Fit1 prog num (glob prog) F.tb 165 42 := fit_code F.tb_165 func42 ok_term_Vars
theorem fit_166 : Fit1 prog num (glob prog) F.tb 166 98 := fit_code F.tb_166 func98 ok_term_ofKind
theorem fit_167 : Fit1 prog num (glob prog) F.tb 167 157 := fit_code F.tb_167 func157 ok_term_ofKind_c1
theorem fit_168 : Fit1 prog num (glob prog) F.tb 168 156 := fit_code F.tb_168 func156 ok_term_walk
theorem fit_169 : Fit1 prog num (glob prog) F.tb 169 158 := fit_code F.tb_169 func158 ok_term_ordered_a0
theorem fit_170 : Fit1 prog num (glob prog) F.tb 170 88 := fit_orc F.tb_170 (sort_orc hD laysSortFunc rfl (fun w => run_isAgg (by kernel_rfl)) (fun w => run_sizeOf (by kernel_rfl)) (sort_cmp enters (by kernel_rfl) cmpC))
theorem fit_171 : Fit1 prog num (glob prog) F.tb 171 234 := fit_code F.tb_171 func234 ok_term_ordered_c1
theorem fit_172 : Fit1 prog num (glob prog) F.tb 172 233 := fit_code F.tb_172 func233 ok_slices_CompactFunc_api_Term_api_Term_g_a0
theorem fit_173 : Fit1 prog num (glob prog) F.tb 173 43 := fit_code F.tb_173 func43 ok_theory_Plain
theorem fit_174 : Fit1 prog num (glob prog) F.tb 174 49 := fit_code F.tb_174 func49 ok_theory_Normal
theorem fit_175 : Fit1 prog num (glob prog) F.tb 175 109 := fit_code F.tb_175 func109 ok_theory_normal
theorem fit_176 : Fit1 prog num (glob prog) F.tb 176 162 := fit_code F.tb_176 func162 ok_theory_destroy
theorem fit_177 : Fit1 prog num (glob prog) F.tb 177 99 := fit_code F.tb_177 func99 ok_theory_same
theorem fit_178 : Fit1 prog num (glob prog) F.tb 178 163 := fit_code F.tb_178 func163 ok_xor_Sum
theorem fit_179 : Fit1 prog num (glob prog) F.tb 179 238 := fit_code F.tb_179 func238 ok_xor_right
theorem fit_180 : Fit1 prog num (glob prog) F.tb 180 246 := fit_code F.tb_180 func246 ok_slices_Concat_api_Term_api_Term
theorem fit_181 : Fit1 prog num (glob prog) F.tb 181 289 := fit_orc F.tb_181 (grow_orc2 hD laysGrow rfl (z := .agg #[.int .i64 0, .string ⟨#[]⟩, .int .i64 0, .slice none 0 0]) (by kernel_rfl) (by decide) (by kernel_rfl))
theorem fit_182 : Fit1 prog num (glob prog) F.tb 182 240 := fit_code F.tb_182 func240 ok_xor_summands
theorem fit_183 : Fit1 prog num (glob prog) F.tb 183 239 := fit_code F.tb_183 func239 ok_xor_plus
theorem fit_184 : Fit1 prog num (glob prog) F.tb 184 241 := fit_code F.tb_184 func241 ok_xor_own
theorem fit_185 : Fit1 prog num (glob prog) F.tb 185 285 := fit_code F.tb_185 func285 ok_term_Replace
theorem fit_186 : Fit1 prog num (glob prog) F.tb 186 164 := fit_code F.tb_186 func164 ok_exponent_Of
theorem fit_187 : Fit1 prog num (glob prog) F.tb 187 242 := fit_code F.tb_187 func242 ok_exponent_collect_g_a0
theorem fit_188 : Fit1 prog num (glob prog) F.tb 188 286 := fit_code F.tb_188 func286 ok_exponent_symbol
theorem fit_189 : Fit1 prog num (glob prog) F.tb 189 287 := fit_code F.tb_189 func287 ok_exponent_insert_g_a0
theorem fit_190 : Fit1 prog num (glob prog) F.tb 190 308 := fit_code F.tb_190 func308 ok_exponent_insert_c1
theorem fit_191 : Fit1 prog num (glob prog) F.tb 191 307 := fit_code F.tb_191 func307 ok_slices_BinarySearchFunc_api_Power_api_Power_api_Term_a0
theorem fit_192 : Fit1 prog num (glob prog) F.tb 192 244 := fit_code F.tb_192 func244 ok_exponent_clone
theorem fit_193 : Fit1 prog num (glob prog) F.tb 193 288 := fit_orc F.tb_193 (clone_orc mixed enters func288 ok_slices_Clone_api_Term_api_Term_g)
theorem fit_194 : Fit1 prog num (glob prog) F.tb 194 309 := fit_orc F.tb_194 (ins_orc hD ok_slices_Insert_api_Power_api_Power_g_a0 func309)
theorem fit_195 : Fit1 prog num (glob prog) F.tb 195 310 := fit_code F.tb_195 func310 ok_slices_Delete_api_Power_api_Power_g_a0
theorem fit_196 : Fit1 prog num (glob prog) F.tb 196 165 := fit_code F.tb_196 func165 ok_exponent_Term
theorem fit_197 : Fit1 prog num (glob prog) F.tb 197 243 := fit_code F.tb_197 func243 ok_exponent_valid
theorem fit_198 : Fit1 prog num (glob prog) F.tb 198 245 := fit_code F.tb_198 func245 ok_exponent_app
theorem fit_199 : Fit1 prog num (glob prog) F.tb 199 166 := fit_code F.tb_199 func166 ok_theory_raise
theorem fit_200 : Fit1 prog num (glob prog) F.tb 200 247 := fit_code F.tb_200 func247 ok_exponent_Mul
theorem fit_201 : Fit1 prog num (glob prog) F.tb 201 290 := fit_code F.tb_201 func290 ok_exponent_copied_g
theorem fit_202 : Fit1 prog num (glob prog) F.tb 202 291 := fit_code F.tb_202 func291 ok_exponent_result_a0
theorem fit_203 : Fit1 prog num (glob prog) F.tb 203 312 := fit_code F.tb_203 func312 ok_exponent_result_c1
theorem fit_204 : Fit1 prog num (glob prog) F.tb 204 311 := fit_code F.tb_204 func311 ok_slices_ContainsFunc_api_Power_api_Power_a0
theorem fit_205 : Fit1 prog num (glob prog) F.tb 205 332 := fit_code F.tb_205 func332 ok_slices_IndexFunc_api_Power_api_Power_a0
theorem fit_206 : Fit1 prog num (glob prog) F.tb 206 101 := fit_code F.tb_206 func101 ok_theory_Plain_c1
theorem fit_207 : Fit1 prog num (glob prog) F.tb 207 100 := fit_code F.tb_207 func100 ok_theory_every
theorem fit_208 : Fit1 prog num (glob prog) F.tb 208 35 := fit_code F.tb_208 func35 ok_recipe_copied
theorem fit_209 : Fit1 prog num (glob prog) F.tb 209 36 := fit_code F.tb_209 func36 ok_recipe_free
theorem fit_210 : Fit1 prog num (glob prog) F.tb 210 86 := fit_code F.tb_210 func86 ok_term_Atoms
theorem fit_211 : Fit1 prog num (glob prog) F.tb 211 87 := fit_code F.tb_211 func87 ok_recipe_has
theorem fit_212 : Fit1 prog num (glob prog) F.tb 212 148 := fit_code F.tb_212 func148 ok_recipe_has_c1
theorem fit_213 : Fit1 prog num (glob prog) F.tb 213 68 := fit_code F.tb_213 func68 ok_recipe_same
theorem fit_214 : Fit1 prog num (glob prog) F.tb 214 112 := fit_code F.tb_214 func112 ok_slices_ContainsFunc_api_Term_api_Term
theorem fit_215 : Fit1 prog num (glob prog) F.tb 215 167 := fit_code F.tb_215 func167 ok_slices_IndexFunc_api_Term_api_Term
theorem fit_216 : Fit1 prog num (glob prog) F.tb 216 87 := fit_code F.tb_216 func87 ok_recipe_has_a0
theorem fit_217 : Fit1 prog num (glob prog) F.tb 217 112 := fit_code F.tb_217 func112 ok_slices_ContainsFunc_api_Term_api_Term_a0
theorem fit_218 : Fit1 prog num (glob prog) F.tb 218 167 := fit_code F.tb_218 func167 ok_slices_IndexFunc_api_Term_api_Term_a0
theorem fit_219 : Fit1 prog num (glob prog) F.tb 219 17 := fit_code F.tb_219 func17 ok_recipe_Value
theorem fit_220 : Fit1 prog num (glob prog) F.tb 220 19 := fit_code F.tb_220 func19 ok_recipe_Right
theorem fit_221 : Fit1 prog num (glob prog) F.tb 221 56 := fit_code F.tb_221 func56 ok_recipe_first
theorem fit_222 : Fit1 prog num (glob prog) F.tb 222 110 := fit_code F.tb_222 func110 ok_recipe_index
theorem fit_223 : Fit1 prog num (glob prog) F.tb 223 139 := fit_code F.tb_223 func139 ok_recipe_handle
theorem fit_224 : Fit1 prog num (glob prog) F.tb 224 115 := fit_code F.tb_224 func115 ok_recipe_private
theorem fit_225 : Fit1 prog num (glob prog) F.tb 225 50 := fit_code F.tb_225 func50 ok_recipe_put
theorem fit_226 : Fit1 prog num (glob prog) F.tb 226 51 := fit_code F.tb_226 func51 ok_recipe_stuck
theorem fit_227 : Fit1 prog num (glob prog) F.tb 227 111 := fit_code F.tb_227 func111 ok_recipe_destructor
theorem fit_228 : Fit1 prog num (glob prog) F.tb 228 10 := fit_code F.tb_228 func10 ok_sealringref13_Few
theorem fit_229 : Fit1 prog num (glob prog) F.tb 229 12 := fit_code F.tb_229 func12 ok_sealringref13_Givens
theorem fit_230 : Fit1 prog num (glob prog) F.tb 230 14 := fit_code F.tb_230 func14 ok_sealringref13_Valid
theorem fit_231 : Fit1 prog num (glob prog) F.tb 231 45 := fit_code F.tb_231 func45 ok_sealringref10_Public
theorem fit_232 : Fit1 prog num (glob prog) F.tb 232 106 := fit_code F.tb_232 func106 ok_sealringref10_own
theorem fit_233 : Fit1 prog num (glob prog) F.tb 233 47 := fit_code F.tb_233 func47 ok_sealringref10_Right
theorem fit_234 : Fit1 prog num (glob prog) F.tb 234 108 := fit_code F.tb_234 func108 ok_sealringref01_Ground
theorem fit_235 : Fit1 prog num (glob prog) F.tb 235 161 := fit_code F.tb_235 func161 ok_sealringref01_Vars
theorem fit_236 : Fit1 prog num (glob prog) F.tb 236 236 := fit_code F.tb_236 func236 ok_sealringref01_kind
theorem fit_237 : Fit1 prog num (glob prog) F.tb 237 58 := fit_code F.tb_237 func58 ok_sealringref01_All
theorem fit_238 : Fit1 prog num (glob prog) F.tb 238 67 := fit_code F.tb_238 func67 ok_sealringref01_Set
theorem fit_239 : Fit1 prog num (glob prog) F.tb 239 124 := fit_code F.tb_239 func124 ok_sealringref01_Add
theorem fit_240 : Fit1 prog num (glob prog) F.tb 240 70 := fit_code F.tb_240 func70 ok_sealringref09_Plain
theorem fit_241 : Fit1 prog num (glob prog) F.tb 241 52 := fit_code F.tb_241 func52 ok_sealringref09_Normal
theorem fit_242 : Fit1 prog num (glob prog) F.tb 242 113 := fit_code F.tb_242 func113 ok_sealringref09_normal
theorem fit_243 : Fit1 prog num (glob prog) F.tb 243 168 := fit_code F.tb_243 func168 ok_sealringref09_destroy
theorem fit_244 : Fit1 prog num (glob prog) F.tb 244 169 := fit_code F.tb_244 func169 ok_sealringref08_Sum
theorem fit_245 : Fit1 prog num (glob prog) F.tb 245 249 := fit_code F.tb_245 func249 ok_sealringref08_zero
theorem fit_246 : Fit1 prog num (glob prog) F.tb 246 189 := fit_code F.tb_246 func189 ok_sealringref08_valid
theorem fit_247 : Fit1 prog num (glob prog) F.tb 247 188 := fit_code F.tb_247 func188 ok_sealringref08_Summands
theorem fit_248 : Fit1 prog num (glob prog) F.tb 248 250 := fit_code F.tb_248 func250 ok_sealringref08_Plus
theorem fit_249 : Fit1 prog num (glob prog) F.tb 249 292 := fit_code F.tb_249 func292 ok_sealringref08_toggle
theorem fit_250 : Fit1 prog num (glob prog) F.tb 250 61 := fit_code F.tb_250 func61 ok_sealringref01_Has
theorem fit_251 : Fit1 prog num (glob prog) F.tb 251 251 := fit_code F.tb_251 func251 ok_sealringref08_Term
theorem fit_252 : Fit1 prog num (glob prog) F.tb 252 170 := fit_code F.tb_252 func170 ok_sealringref09_product
theorem fit_253 : Fit1 prog num (glob prog) F.tb 253 133 := fit_code F.tb_253 func133 ok_sealringref06_Of
theorem fit_254 : Fit1 prog num (glob prog) F.tb 254 198 := fit_code F.tb_254 func198 ok_sealringref06_arity
theorem fit_255 : Fit1 prog num (glob prog) F.tb 255 261 := fit_code F.tb_255 func261 ok_sealringref06_special
theorem fit_256 : Fit1 prog num (glob prog) F.tb 256 199 := fit_code F.tb_256 func199 ok_sealringref06_collect
theorem fit_257 : Fit1 prog num (glob prog) F.tb 257 258 := fit_code F.tb_257 func258 ok_sealringref06_add
theorem fit_258 : Fit1 prog num (glob prog) F.tb 258 252 := fit_code F.tb_258 func252 ok_sealringref06_Term
theorem fit_259 : Fit1 prog num (glob prog) F.tb 259 257 := fit_code F.tb_259 func257 ok_sealringref06_Valid
theorem fit_260 : Fit1 prog num (glob prog) F.tb 260 293 := fit_code F.tb_260 func293 ok_sealringref06_operands
theorem fit_261 : Fit1 prog num (glob prog) F.tb 261 171 := fit_code F.tb_261 func171 ok_sealringref09_power
theorem fit_262 : Fit1 prog num (glob prog) F.tb 262 193 := fit_code F.tb_262 func193 ok_sealringref06_Mul
theorem fit_263 : Fit1 prog num (glob prog) F.tb 263 259 := fit_code F.tb_263 func259 ok_sealringref06_inRange
theorem fit_264 : Fit1 prog num (glob prog) F.tb 264 37 := fit_code F.tb_264 func37 ok_sealringref13_Free
theorem fit_265 : Fit1 prog num (glob prog) F.tb 265 89 := fit_code F.tb_265 func89 ok_sealringref01_Subterms
theorem fits : Fits prog num (glob prog) F.tb := fits_of mixed enters (fcons fit_6 (fcons fit_7 (fcons fit_8 (fcons fit_9 (fcons fit_18 (fcons fit_30 (fcons fit_31 (fcons fit_32 (fcons fit_33 (fcons fit_41 (fcons fit_42 (fcons fit_43 (fcons fit_44 (fcons fit_45 (fcons fit_47 (fcons fit_48 (fcons fit_49 (fcons fit_54 (fcons fit_55 (fcons fit_56 (fcons fit_57 (fcons fit_58 (fcons fit_59 (fcons fit_60 (fcons fit_61 (fcons fit_63 (fcons fit_71 (fcons fit_73 (fcons fit_74 (fcons fit_75 (fcons fit_89 (fcons fit_90 (fcons fit_91 (fcons fit_101 (fcons fit_102 (fcons fit_112 (fcons fit_120 (fcons fit_126 (fcons fit_127 (fcons fit_128 (fcons fit_129 (fcons fit_130 (fcons fit_131 (fcons fit_132 (fcons fit_150 (fcons fit_151 (fcons fit_152 (fcons fit_153 (fcons fit_154 (fcons fit_155 (fcons fit_156 (fcons fit_157 (fcons fit_158 (fcons fit_159 (fcons fit_160 (fcons fit_161 (fcons fit_162 (fcons fit_163 (fcons fit_164 (fcons fit_165 (fcons fit_166 (fcons fit_167 (fcons fit_168 (fcons fit_169 (fcons fit_170 (fcons fit_171 (fcons fit_172 (fcons fit_173 (fcons fit_174 (fcons fit_175 (fcons fit_176 (fcons fit_177 (fcons fit_178 (fcons fit_179 (fcons fit_180 (fcons fit_181 (fcons fit_182 (fcons fit_183 (fcons fit_184 (fcons fit_185 (fcons fit_186 (fcons fit_187 (fcons fit_188 (fcons fit_189 (fcons fit_190 (fcons fit_191 (fcons fit_192 (fcons fit_193 (fcons fit_194 (fcons fit_195 (fcons fit_196 (fcons fit_197 (fcons fit_198 (fcons fit_199 (fcons fit_200 (fcons fit_201 (fcons fit_202 (fcons fit_203 (fcons fit_204 (fcons fit_205 (fcons fit_206 (fcons fit_207 (fcons fit_208 (fcons fit_209 (fcons fit_210 (fcons fit_211 (fcons fit_212 (fcons fit_213 (fcons fit_214 (fcons fit_215 (fcons fit_216 (fcons fit_217 (fcons fit_218 (fcons fit_219 (fcons fit_220 (fcons fit_221 (fcons fit_222 (fcons fit_223 (fcons fit_224 (fcons fit_225 (fcons fit_226 (fcons fit_227 (fcons fit_228 (fcons fit_229 (fcons fit_230 (fcons fit_231 (fcons fit_232 (fcons fit_233 (fcons fit_234 (fcons fit_235 (fcons fit_236 (fcons fit_237 (fcons fit_238 (fcons fit_239 (fcons fit_240 (fcons fit_241 (fcons fit_242 (fcons fit_243 (fcons fit_244 (fcons fit_245 (fcons fit_246 (fcons fit_247 (fcons fit_248 (fcons fit_249 (fcons fit_250 (fcons fit_251 (fcons fit_252 (fcons fit_253 (fcons fit_254 (fcons fit_255 (fcons fit_256 (fcons fit_257 (fcons fit_258 (fcons fit_259 (fcons fit_260 (fcons fit_261 (fcons fit_262 (fcons fit_263 (fcons fit_264 (fcons fit_265 (fnil)))))))))))))))))))))))))))))))))))))))))))))))))))))))))))))))))))))))))))))))))))))))))))))))))))))))))))))))))))))))))))))))))))))))))))))))))))))))))))))))))
end Go.Am.Chk
