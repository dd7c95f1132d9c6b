/-
  AmCheck.
-/
import Derived.Test.YteahheknpdcoeaaGreatDoorG26
import Derived.Test.YteahheknpdcoeaaGreatDoorG14
import Derived.Test.YteahheknpdcoeaaGreatDoorG09
import Derived.WalkKit
import Derived.Test.YteahheknpdcoeaaGreatDoorShelf
import Derived.Test.YteahheknpdcoeaaGreatDoorProg
set_option linter.unusedVariables false
set_option linter.unusedSimpArgs false
namespace Go.Am.Chk
open Go.Proofs.Tryz
def numL : List (Nat × Nat) := [(6,38),(7,90),(8,151),(9,222),(18,204),(30,40),(31,95),(32,94),(33,96),(41,41),(42,97),(43,102),(44,159),(45,235),(47,85),(48,147),(49,248),(54,44),(55,103),(56,160),(57,210),(58,273),(59,274),(60,104),(61,105),(63,275),(71,237),(73,92),(74,153),(75,224),(89,21),(90,46),(91,107),(101,16),(102,48),(107,125),(112,15),(120,119),(126,57),(127,116),(128,59),(129,117),(130,174),(131,175),(132,126),(151,9),(152,34),(153,84),(154,146),(155,209),(156,211),(157,11),(158,13),(159,39),(160,91),(161,152),(162,223),(163,93),(164,154),(165,42),(166,98),(167,157),(168,156),(169,158),(170,88),(171,234),(172,233),(173,43),(174,49),(175,109),(176,162),(177,99),(178,163),(179,238),(180,246),(181,289),(182,240),(183,239),(184,241),(185,285),(186,164),(187,242),(188,286),(189,287),(190,308),(191,307),(192,244),(193,288),(194,309),(195,310),(196,165),(197,243),(198,245),(199,166),(200,247),(201,290),(202,291),(203,312),(204,311),(205,332),(206,101),(207,100),(208,35),(209,36),(210,86),(211,87),(212,148),(213,68),(214,112),(215,167),(216,87),(217,112),(218,167),(219,17),(220,19),(221,56),(222,110),(223,139),(224,115),(225,50),(226,51),(227,111),(228,10),(230,14),(231,45),(232,106),(233,47),(234,108),(235,161),(236,236),(237,58),(238,67),(239,124),(240,70),(241,52),(242,113),(243,168),(244,169),(245,249),(246,189),(247,188),(248,250),(249,292),(250,61),(251,251),(252,170),(253,133),(254,198),(255,261),(256,199),(257,258),(258,252),(259,257),(260,293),(261,171),(262,193),(263,259),(264,37),(265,89),(266,4),(267,18),(268,20),(269,54),(270,114),(271,173),(272,172),(273,60),(274,53),(275,55),(276,6),(277,25),(278,26),(279,7),(280,22),(281,62),(282,30),(283,69),(284,71),(285,27),(286,28),(287,29),(288,23),(289,63),(290,118)]
def num : Nat → Option Nat := fun f => numL.lookup f
theorem ok_slices_Clone_api_Term_api_Term_g : okClone prog num true 56 4 f288 = true := by kernel_rfl
theorem mixed0 : prog.follows .mixedOrders = true := by kernel_rfl
def ren_194 : Go.Shelf.Ren := ⟨fun n => match n with | 29 => 330 | 30 => 331 | 22 => 309 | n => n,fun n => match n with | 24 => 133 | 9 => 187 | 3 => 3 | 4 => 4 | 0 => 0 | n => n,fun n => n⟩
theorem ok_slices_Insert_api_Power_api_Power_g_a0 : InsLay prog ren_194 f309 5 64 (.agg #[.int .i64 0,.string ⟨#[]⟩,.int .i64 0,.slice none 0 0,.int .i64 0]) where
 mixed := mixed0
 body := by kernel_rfl
 ntmps := by kernel_rfl
 res := by kernel_rfl
 f29 := fun args w => run_callFunc_extern (f := ren_194.f 29) (fn := f330) func330 (by kernel_rfl) (by kernel_rfl) (by kernel_rfl) (e := Extern.SlicesOverlaps.overlaps #[ren_194.t 24,ren_194.t 24] #[ren_194.t 4]) (by kernel_rfl) args w
 t0 := by kernel_rfl
 t3 := by kernel_rfl
 t4 := by kernel_rfl
 t24 := by kernel_rfl
 i9 := by kernel_rfl
 zc := by kernel_rfl
 a3 := fun w => run_isAgg (by kernel_rfl)
 a4 := fun w => run_isAgg (by kernel_rfl)
 a24 := fun w => run_isAgg (by kernel_rfl)
 z3 := fun w => run_sizeOf (by kernel_rfl)
 z4 := fun w => run_sizeOf (by kernel_rfl)
 z9 := fun w => run_sizeOf (by kernel_rfl)
 z24 := fun w => run_sizeOf (by kernel_rfl)
theorem ents : (numL.all fun p => entB prog p.2) = true := by kernel_rfl
theorem cod0 : codB prog numL ((F.tbL.drop 0).take 24) = true := by kernel_rfl
theorem cod1 : codB prog numL ((F.tbL.drop 24).take 24) = true := by kernel_rfl
theorem cod2 : codB prog numL ((F.tbL.drop 48).take 24) = true := by kernel_rfl
theorem cod3 : codB prog numL ((F.tbL.drop 72).take 24) = true := by kernel_rfl
theorem cod4 : codB prog numL ((F.tbL.drop 96).take 24) = true := by kernel_rfl
theorem cod5 : codB prog numL ((F.tbL.drop 120).take 24) = true := by kernel_rfl
theorem cod6 : codB prog numL ((F.tbL.drop 144).take 24) = true := by kernel_rfl
theorem cod7 : codB prog numL ((F.tbL.drop 168).take 24) = true := by kernel_rfl
theorem codE8 : codB prog numL (F.tbL.drop 192) = true := by kernel_rfl
theorem codE7 : codB prog numL (F.tbL.drop 168) = true := cod_split 24 cod7 (by rw [List.drop_drop]; exact codE8)
theorem codE6 : codB prog numL (F.tbL.drop 144) = true := cod_split 24 cod6 (by rw [List.drop_drop]; exact codE7)
theorem codE5 : codB prog numL (F.tbL.drop 120) = true := cod_split 24 cod5 (by rw [List.drop_drop]; exact codE6)
theorem codE4 : codB prog numL (F.tbL.drop 96) = true := cod_split 24 cod4 (by rw [List.drop_drop]; exact codE5)
theorem codE3 : codB prog numL (F.tbL.drop 72) = true := cod_split 24 cod3 (by rw [List.drop_drop]; exact codE4)
theorem codE2 : codB prog numL (F.tbL.drop 48) = true := cod_split 24 cod2 (by rw [List.drop_drop]; exact codE3)
theorem codE1 : codB prog numL (F.tbL.drop 24) = true := cod_split 24 cod1 (by rw [List.drop_drop]; exact codE2)
theorem codE0 : codB prog numL (F.tbL.drop 0) = true := cod_split 24 cod0 (by rw [List.drop_drop]; exact codE1)
theorem cods : codB prog numL F.tbL = true := codE0
theorem mixed : prog.follows .mixedOrders = true := by kernel_rfl
def tbS : List (Nat × AFn) := [(30,.code F.f30),(31,.code F.f31),(32,.code F.f32),(33,.orc (pureOrc cmpO))]
theorem tbS_eq : ∀ f,S.tb f = tbS.lookup f := fun f => by
 unfold S.tb tbS
 by_cases h0 : f = 30
 ·subst h0; rfl
 by_cases h1 : f = 31
 ·subst h1; rfl
 by_cases h2 : f = 32
 ·subst h2; rfl
 by_cases h3 : f = 33
 ·subst h3; rfl
 have e0 : (f == 30) = false := by simpa using h0
 have e1 : (f == 31) = false := by simpa using h1
 have e2 : (f == 32) = false := by simpa using h2
 have e3 : (f == 33) = false := by simpa using h3
 rw [if_neg h0,if_neg h1,if_neg h2,if_neg h3]
 simp [List.lookup,e0,e1,e2,e3]
section
attribute [local instance] drT
theorem fitsS : Fits prog num globT S.tb := fits_all [33] tbS_eq mixed ents (by kernel_rfl) (by kernel_rfl) (fcons (oat_of S.tb_33 (show numL.lookup 33 = some 96 from rfl) (cmp_orc fun a b w => strings_Compare a b w)) fnil)
end
theorem cmpC : CmpC prog num 40 := cmpC_of (by kernel_rfl) fitsS
instance drF : Dr := ⟨False⟩
theorem hD : ¬ Dr.d := fun h => h
theorem oat_18 : Oat prog numL (glob prog) F.tb 18 := oat_of F.tb_18 (show numL.lookup 18 = some 204 from rfl) (itoa_orc fun n h0 h1 w ht => strconv_Itoa n h0 h1 w ht)
theorem oat_33 : Oat prog numL (glob prog) F.tb 33 := oat_of F.tb_33 (show numL.lookup 33 = some 96 from rfl) (cmp_orc fun a b w => strings_Compare a b w)
theorem oat_164 : Oat prog numL (glob prog) F.tb 164 := oat_of F.tb_164 (show numL.lookup 164 = some 154 from rfl) (trim_orc hD fun s c w h1 h2 h3 => Go.Proofs.Any.strings_Trim_laid lays160 (by kernel_rfl) s c w h1 h2 h3)
theorem oat_170 : Oat prog numL (glob prog) F.tb 170 := oat_of F.tb_170 (show numL.lookup 170 = some 88 from rfl) (sort_orc hD laysSortFunc rfl (fun w => run_isAgg (by kernel_rfl)) (fun w => run_sizeOf (by kernel_rfl)) (sort_cmp (ents_of ents) (by kernel_rfl) cmpC))
theorem oat_181 : Oat prog numL (glob prog) F.tb 181 := oat_of F.tb_181 (show numL.lookup 181 = some 289 from rfl) (grow_orc2 hD laysGrow rfl (z := .agg #[.int .i64 0,.string ⟨#[]⟩,.int .i64 0,.slice none 0 0]) (by kernel_rfl) (by decide) (by kernel_rfl))
theorem oat_193 : Oat prog numL (glob prog) F.tb 193 := oat_of F.tb_193 (show numL.lookup 193 = some 288 from rfl) (clone_orc mixed (ents_of ents) func288 ok_slices_Clone_api_Term_api_Term_g)
theorem oat_194 : Oat prog numL (glob prog) F.tb 194 := oat_of F.tb_194 (show numL.lookup 194 = some 309 from rfl) (ins_orc hD ok_slices_Insert_api_Power_api_Power_g_a0 func309)
theorem fits : Fits prog num (glob prog) F.tb := fits_all [18,33,164,170,181,193,194] (fun _ => rfl) mixed ents cods (by kernel_rfl) (fcons oat_18 (fcons oat_33 (fcons oat_164 (fcons oat_170 (fcons oat_181 (fcons oat_193 (fcons oat_194 (fnil))))))))
end Go.Am.Chk
