/-
  AmCheck.
-/
import Derived.Test.YtkikjgionglgaaaGreatDoorG40
import Derived.Test.YtkikjgionglgaaaGreatDoorG13
import Derived.Test.YtkikjgionglgaaaGreatDoorG09
import Derived.Test.YtkikjgionglgaaaGreatDoorG41
import Derived.WalkKit
import Derived.Test.YtkikjgionglgaaaGreatDoorShelf
import Derived.Test.YtkikjgionglgaaaGreatDoorProg
set_option linter.unusedVariables false
set_option linter.unusedSimpArgs false
namespace Go.Am.Chk
open Go.Proofs.Tryz
def Zb:List (Nat×Nat):=[(6,71),(7,112),(8,141),(9,177),(30,78),(31,118),(32,117),(33,119),(41,43),(42,72),(43,75),(44,113),(45,142),(46,229),(47,262),(48,101),(49,222),(54,104),(55,133),(56,168),(57,92),(58,130),(59,131),(60,103),(61,134),(71,214),(73,185),(74,226),(75,254),(89,36),(90,64),(91,102),(101,16),(102,37),(107,22),(112,14),(120,23),(126,65),(127,105),(128,108),(129,139),(130,135),(131,136),(132,205),(159,159),(160,157),(161,86),(162,87),(163,186),(164,227),(165,45),(166,76),(167,114),(168,60),(169,62),(170,77),(171,100),(172,79),(173,68),(174,109),(175,140),(176,173),(177,110),(178,174),(179,215),(180,120),(181,154),(182,217),(183,216),(184,218),(185,249),(186,158),(187,184),(188,224),(189,225),(190,251),(191,250),(192,220),(193,20),(194,252),(195,253),(196,175),(197,219),(198,221),(199,176),(200,196),(201,235),(202,236),(203,268),(204,267),(205,282),(206,111),(207,73),(214,58),(215,99),(217,58),(218,99),(233,38),(234,66),(235,106),(236,137),(237,63),(238,54),(239,95),(240,67),(241,107),(242,138),(243,169),(244,170),(245,207),(246,206),(247,209),(248,208),(249,242),(250,39),(251,210),(252,171),(253,211),(254,243),(255,274),(256,244),(257,247),(258,212),(259,245),(260,246),(261,172),(262,213),(263,248),(265,35),(272,25),(363,197),(372,290),(373,289),(375,297),(378,281),(404,44),(405,74),(407,20),(418,191),(476,3),(477,6),(478,8),(479,26),(480,49),(481,84),(482,85),(483,127),(484,167),(485,201),(487,204),(488,241),(489,51),(490,90),(491,128),(492,91),(493,50),(494,88),(495,89),(496,129),(497,79),(498,27),(499,52),(500,42),(501,19),(502,30),(503,40),(504,59),(505,41),(506,69),(507,70),(508,27),(509,41),(510,12),(511,32),(512,61),(513,31),(514,47),(515,24),(516,46),(517,48),(518,80),(519,121),(520,155),(521,122),(522,156),(523,125),(524,126),(525,166),(526,165),(527,81),(528,123),(529,82),(530,83),(531,124),(532,160),(533,187),(534,161),(535,189),(536,190),(537,188),(538,228),(539,162),(540,192),(541,193),(542,230),(543,263),(544,232),(545,266),(546,281),(547,264),(548,231),(549,234),(550,265),(551,233),(552,163),(553,194),(554,195),(555,198),(556,237),(557,270),(558,271),(559,269),(560,238),(561,272),(562,283),(563,291),(564,292),(565,298),(566,293),(567,284),(568,164),(569,7),(570,9),(571,28),(572,53),(573,93),(574,94),(575,55),(576,96),(577,97),(578,132),(579,56),(580,98),(581,10),(582,29),(583,57),(584,4),(585,11),(586,13),(587,33),(588,34),(589,5),(590,15),(591,17),(592,18),(593,21)]
def num:Nat→Option Nat:=fun f=>Zb.lookup f
theorem WV:Vo prog num true 56 4 f20=true:=by kernel_rfl
theorem WU:Vo prog num false 24 1 f290=true:=by kernel_rfl
theorem W3:Vo prog num false 56 4 f20=true:=by kernel_rfl
theorem VP:Vo prog num false 16 1 f52=true:=by kernel_rfl
theorem Wk:Vo prog num true 56 4 f166=true:=by kernel_rfl
theorem WB:Vo prog num true 64 5 f270=true:=by kernel_rfl
theorem Qfz:prog.follows .mixedOrders=true:=by kernel_rfl
def Rn:Go.Shelf.Ren:=⟨fun n=>match n with | 29=>275 | 30=>276 | 22=>252 | n=>n,fun n=>match n with | 24=>132 | 9=>136 | 3=>3 | 4=>4 | 0=>0 | n=>n,fun n=>n⟩
theorem X8:Vz prog Rn f252 5 64 (.agg #[.int .i64 0,.string ⟨#[]⟩,.int .i64 0,.slice none 0 0,.int .i64 0]) where
 mixed:=Qfz
 body:=by kernel_rfl
 ntmps:=by kernel_rfl
 res:=by kernel_rfl
 f29:=fun args w=>run_callFunc_extern (f:=Rn.f 29) (fn:=f275) func275 (by kernel_rfl) (by kernel_rfl) (by kernel_rfl) (e:=Extern.SlicesOverlaps.overlaps #[Rn.t 24,Rn.t 24] #[Rn.t 4]) (by kernel_rfl) args w
 t0:=by kernel_rfl
 t3:=by kernel_rfl
 t4:=by kernel_rfl
 t24:=by kernel_rfl
 i9:=by kernel_rfl
 zc:=by kernel_rfl
 a3:=fun w=>ZW (by kernel_rfl)
 a4:=fun w=>ZW (by kernel_rfl)
 a24:=fun w=>ZW (by kernel_rfl)
 z3:=fun w=>Q2 (by kernel_rfl)
 z4:=fun w=>Q2 (by kernel_rfl)
 z9:=fun w=>Q2 (by kernel_rfl)
 z24:=fun w=>Q2 (by kernel_rfl)
theorem RF: (Zb.all fun p=>Fp prog p.2)=true:=by kernel_rfl
theorem QgS:YC prog Zb ((F.tbL.drop 0).take 24)=true:=by kernel_rfl
theorem QgT:YC prog Zb ((F.tbL.drop 24).take 24)=true:=by kernel_rfl
theorem QgU:YC prog Zb ((F.tbL.drop 48).take 24)=true:=by kernel_rfl
theorem QgV:YC prog Zb ((F.tbL.drop 72).take 24)=true:=by kernel_rfl
theorem QgW:YC prog Zb ((F.tbL.drop 96).take 24)=true:=by kernel_rfl
theorem QgX:YC prog Zb ((F.tbL.drop 120).take 24)=true:=by kernel_rfl
theorem QgY:YC prog Zb ((F.tbL.drop 144).take 24)=true:=by kernel_rfl
theorem QgZ:YC prog Zb ((F.tbL.drop 168).take 24)=true:=by kernel_rfl
theorem Qg0:YC prog Zb ((F.tbL.drop 192).take 24)=true:=by kernel_rfl
theorem Qg1:YC prog Zb ((F.tbL.drop 216).take 24)=true:=by kernel_rfl
theorem Qf2:YC prog Zb ((F.tbL.drop 240).take 24)=true:=by kernel_rfl
theorem Qe0:YC prog Zb (F.tbL.drop 264)=true:=by kernel_rfl
theorem QeZ:YC prog Zb (F.tbL.drop 240)=true:=Y2 24 Qf2 (by rw[List.drop_drop];exact Qe0)
theorem Qgc:YC prog Zb (F.tbL.drop 216)=true:=Y2 24 Qg1 (by rw[List.drop_drop];exact QeZ)
theorem Qgb:YC prog Zb (F.tbL.drop 192)=true:=Y2 24 Qg0 (by rw[List.drop_drop];exact Qgc)
theorem Qga:YC prog Zb (F.tbL.drop 168)=true:=Y2 24 QgZ (by rw[List.drop_drop];exact Qgb)
theorem Qf9:YC prog Zb (F.tbL.drop 144)=true:=Y2 24 QgY (by rw[List.drop_drop];exact Qga)
theorem Qf8:YC prog Zb (F.tbL.drop 120)=true:=Y2 24 QgX (by rw[List.drop_drop];exact Qf9)
theorem Qf7:YC prog Zb (F.tbL.drop 96)=true:=Y2 24 QgW (by rw[List.drop_drop];exact Qf8)
theorem Qf6:YC prog Zb (F.tbL.drop 72)=true:=Y2 24 QgV (by rw[List.drop_drop];exact Qf7)
theorem Qf5:YC prog Zb (F.tbL.drop 48)=true:=Y2 24 QgU (by rw[List.drop_drop];exact Qf6)
theorem Qf4:YC prog Zb (F.tbL.drop 24)=true:=Y2 24 QgT (by rw[List.drop_drop];exact Qf5)
theorem Qf3:YC prog Zb (F.tbL.drop 0)=true:=Y2 24 QgS (by rw[List.drop_drop];exact Qf4)
theorem Qg2:YC prog Zb F.tbL=true:=Qf3
theorem mixed:prog.follows .mixedOrders=true:=by kernel_rfl
def tbS:List (Nat×AFn):=[(30,.code F.f30),(31,.code F.f31),(32,.code F.f32),(33,.orc (YQ OT))]
theorem QfJ: ∀f,S.tb f=tbS.lookup f:=fun f=>by
 unfold S.tb tbS;by_cases h0:f=30
 ·subst h0;rfl
 by_cases h1:f=31
 ·subst h1;rfl
 by_cases h2:f=32
 ·subst h2;rfl
 by_cases h3:f=33
 ·subst h3;rfl
 have e0: (f == 30)=false:=by simpa using h0
 have e1: (f == 31)=false:=by simpa using h1
 have e2: (f == 32)=false:=by simpa using h2
 have e3: (f == 33)=false:=by simpa using h3
 rw[if_neg h0,if_neg h1,if_neg h2,if_neg h3];simp[List.lookup,e0,e1,e2,e3]
section
attribute [local instance] drT
theorem Qgp:N9 prog num Fu S.tb:=JT [33] QfJ mixed RF (by kernel_rfl) (by kernel_rfl) (WA (XN S.tb_33 (show Zb.lookup 33=some 119 from rfl) (H8 fun a b w=>strings_Compare a b w)) Qfv)
end
theorem QgR:NY prog num 78:=Qb6 (by kernel_rfl) Qgp
instance drF:Dr:=⟨False⟩
theorem hD: ¬Dr.d:=fun h=>h
theorem QfA:Oat prog Zb Wi F.tb 33:=XN F.tb_33 (show Zb.lookup 33=some 119 from rfl) (H8 fun a b w=>strings_Compare a b w)
theorem QcG:Oat prog Zb Wi F.tb 164:=XN F.tb_164 (show Zb.lookup 164=some 227 from rfl) (Qar hD fun s c w h1 h2 h3=>Go.Proofs.Any.strings_Trim_laid lays160 (by kernel_rfl) s c w h1 h2 h3)
theorem QcH:Oat prog Zb Wi F.tb 170:=XN F.tb_170 (show Zb.lookup 170=some 77 from rfl) (Qal hD laysSortFunc rfl (fun w=>ZW (by kernel_rfl)) (fun w=>Q2 (by kernel_rfl)) (Qak (Vk RF) (by kernel_rfl) QgR))
theorem QcI:Oat prog Zb Wi F.tb 181:=XN F.tb_181 (show Zb.lookup 181=some 154 from rfl) (CB hD laysGrow rfl (z:= .agg #[.int .i64 0,.string ⟨#[]⟩,.int .i64 0,.slice none 0 0]) (by kernel_rfl) (by decide) (by kernel_rfl))
theorem QcJ:Oat prog Zb Wi F.tb 193:=XN F.tb_193 (show Zb.lookup 193=some 20 from rfl) (Vh mixed (Vk RF) func20 WV)
theorem QcK:Oat prog Zb Wi F.tb 194:=XN F.tb_194 (show Zb.lookup 194=some 252 from rfl) (Gp hD (X8.con func252 (by decide)))
theorem QcL:Oat prog Zb Wi F.tb 372:=XN F.tb_372 (show Zb.lookup 372=some 290 from rfl) (Vh mixed (Vk RF) func290 WU)
theorem QcM:Oat prog Zb Wi F.tb 407:=XN F.tb_407 (show Zb.lookup 407=some 20 from rfl) (Vh mixed (Vk RF) func20 W3)
theorem QcN:Oat prog Zb Wi F.tb 485:=XN F.tb_485 (show Zb.lookup 485=some 201 from rfl) (Qcy hD fun s c w=>stringslite_IndexByte s c w)
theorem QcO:Oat prog Zb Wi F.tb 499:=XN F.tb_499 (show Zb.lookup 499=some 52 from rfl) (Vh mixed (Vk RF) func52 VP)
theorem QcP:Oat prog Zb Wi F.tb 525:=XN F.tb_525 (show Zb.lookup 525=some 166 from rfl) (Vh mixed (Vk RF) func166 Wk)
theorem QcQ:Oat prog Zb Wi F.tb 526:=XN F.tb_526 (show Zb.lookup 526=some 165 from rfl) (Gp hD Qfy)
theorem QcR:Oat prog Zb Wi F.tb 557:=XN F.tb_557 (show Zb.lookup 557=some 270 from rfl) (Vh mixed (Vk RF) func270 WB)
theorem fits:N9 prog num Wi F.tb:=JT [33,164,170,181,193,194,372,407,485,499,525,526,557] (fun _=>rfl) mixed RF Qg2 (by kernel_rfl) (WA QfA (WA QcG (WA QcH (WA QcI (WA QcJ (WA QcK (WA QcL (WA QcM (WA QcN (WA QcO (WA QcP (WA QcQ (WA QcR (Qfv))))))))))))))
end Go.Am.Chk
