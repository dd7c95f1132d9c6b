/-
  AmCheck.
-/
import Derived.Test.YtpdmcibimbjknaaGreatDoorG42
import Derived.Test.YtpdmcibimbjknaaGreatDoorG13
import Derived.Test.YtpdmcibimbjknaaGreatDoorG09
import Derived.Test.YtpdmcibimbjknaaGreatDoorG43
import Derived.WalkKit
import Derived.Test.YtpdmcibimbjknaaGreatDoorShelf
import Derived.Test.YtpdmcibimbjknaaGreatDoorProg
set_option linter.unusedVariables false
set_option linter.unusedSimpArgs false
namespace Go.Am.Chk
open Go.Proofs.Tryz
set_option maxRecDepth 20000
def Q8:List (Nat×Nat):=[(6,60),(7,108),(8,163),(9,225),(30,67),(31,114),(32,113),(33,115),(41,31),(42,61),(43,64),(44,109),(45,164),(46,285),(47,307),(48,107),(49,282),(54,142),(55,200),(56,268),(57,80),(58,140),(59,141),(60,125),(61,201),(71,280),(73,131),(74,187),(75,244),(89,37),(90,73),(91,124),(101,6),(102,19),(107,10),(112,17),(120,13),(126,83),(127,143),(128,147),(129,206),(130,202),(131,203),(132,153),(159,76),(160,130),(161,97),(162,98),(163,132),(164,188),(165,33),(166,65),(167,110),(168,57),(169,59),(170,66),(171,106),(172,68),(173,54),(174,103),(175,162),(176,222),(177,104),(178,134),(179,189),(180,116),(181,176),(182,191),(183,190),(184,192),(185,252),(186,139),(187,199),(188,253),(189,195),(190,256),(191,255),(192,254),(193,119),(194,257),(195,258),(196,223),(197,193),(198,281),(199,224),(200,136),(201,194),(202,196),(203,260),(204,259),(205,300),(206,105),(207,62),(214,39),(215,74),(217,39),(218,74),(231,91),(232,152),(233,45),(234,84),(235,144),(236,204),(237,146),(238,86),(239,148),(240,85),(241,145),(242,205),(243,269),(244,154),(245,209),(246,208),(247,211),(248,210),(249,272),(250,47),(251,212),(252,270),(253,156),(254,213),(255,273),(256,214),(257,274),(258,304),(259,215),(260,321),(261,271),(262,219),(263,275),(272,16),(318,218),(319,220),(324,216),(326,217),(337,93),(340,158),(348,21),(349,41),(350,42),(351,43),(352,75),(353,77),(354,126),(355,128),(356,127),(357,186),(358,129),(359,78),(360,133),(361,79),(362,135),(363,137),(365,138),(366,197),(367,198),(368,261),(369,263),(370,262),(371,301),(372,265),(373,264),(375,302),(377,266),(378,303),(384,23),(385,48),(386,89),(387,90),(388,49),(389,92),(390,94),(391,155),(392,157),(404,32),(405,63),(418,236),(477,4),(478,11),(479,24),(480,50),(481,95),(482,96),(483,159),(484,221),(485,276),(487,279),(488,306),(489,52),(490,101),(491,160),(492,102),(493,51),(494,99),(495,100),(496,161),(497,68),(498,25),(499,53),(500,28),(501,12),(502,20),(503,26),(504,40),(505,27),(506,55),(507,56),(508,25),(509,27),(510,14),(511,30),(512,58),(513,29),(514,35),(515,15),(516,34),(517,36),(518,69),(519,117),(520,177),(521,118),(522,178),(523,122),(524,123),(525,185),(526,184),(527,70),(528,120),(529,71),(530,72),(531,121),(532,179),(533,232),(534,180),(535,234),(536,235),(537,233),(538,284),(539,181),(540,237),(541,238),(542,286),(543,308),(544,288),(545,311),(546,303),(547,309),(548,287),(549,290),(550,310),(551,289),(552,182),(553,239),(554,240),(555,241),(556,291),(557,313),(558,314),(559,312),(560,292),(561,315),(562,322),(563,266),(564,327),(565,329),(566,328),(567,323),(568,183),(569,38),(571,46),(572,44),(573,81),(574,82),(575,87),(576,149),(577,150),(578,207),(579,88),(580,151),(585,18),(587,22),(590,5),(594,3),(595,8),(596,7),(597,9),(598,267),(599,127),(600,186)]
def num:Nat→Option Nat:=fun f=>Q8.lookup f
theorem Vg:VL prog num true 56 4 f119=true:=by kernel_rfl
theorem Vf:VL prog num false 24 1 f265=true:=by kernel_rfl
theorem V8:VL prog num false 16 1 f53=true:=by kernel_rfl
theorem Wx:VL prog num true 56 4 f185=true:=by kernel_rfl
theorem WQ:VL prog num true 64 5 f313=true:=by kernel_rfl
theorem Wf:VL prog num false 120 8 f8=true:=by kernel_rfl
theorem Qhv:prog.follows .mixedOrders=true:=by kernel_rfl
def RV:Go.Shelf.Ren:=⟨fun n=>match n with | 29=>298 | 30=>299 | 22=>257 | n=>n,fun n=>match n with | 24=>134 | 9=>166 | 3=>3 | 4=>4 | 0=>0 | n=>n,fun n=>n⟩
theorem Wq:VX prog RV f257 5 64 (.agg #[.int .i64 0,.string ⟨#[]⟩,.int .i64 0,.slice none 0 0,.int .i64 0]) where
 mixed:=Qhv
 body:=by kernel_rfl
 ntmps:=by kernel_rfl
 res:=by kernel_rfl
 f29:=fun args w=>run_callFunc_extern (f:=RV.f 29) (fn:=f298) func298 (by kernel_rfl) (by kernel_rfl) (by kernel_rfl) (e:=Extern.SlicesOverlaps.overlaps #[RV.t 24,RV.t 24] #[RV.t 4]) (by kernel_rfl) args w
 t0:=by kernel_rfl
 t3:=by kernel_rfl
 t4:=by kernel_rfl
 t24:=by kernel_rfl
 i9:=by kernel_rfl
 zc:=by kernel_rfl
 a3:=fun w=>Z5 (by kernel_rfl)
 a4:=fun w=>Z5 (by kernel_rfl)
 a24:=fun w=>Z5 (by kernel_rfl)
 z3:=fun w=>Q4 (by kernel_rfl)
 z4:=fun w=>Q4 (by kernel_rfl)
 z9:=fun w=>Q4 (by kernel_rfl)
 z24:=fun w=>Q4 (by kernel_rfl)
theorem Pm: (Q8.all fun p=>Eo prog p.2)=true:=by kernel_rfl
theorem Qjj:Yq prog Q8 ((F.tbL.drop 0).take 24)=true:=by kernel_rfl
theorem Qjk:Yq prog Q8 ((F.tbL.drop 24).take 24)=true:=by kernel_rfl
theorem Qjl:Yq prog Q8 ((F.tbL.drop 48).take 24)=true:=by kernel_rfl
theorem Qjm:Yq prog Q8 ((F.tbL.drop 72).take 24)=true:=by kernel_rfl
theorem Qjn:Yq prog Q8 ((F.tbL.drop 96).take 24)=true:=by kernel_rfl
theorem Qjo:Yq prog Q8 ((F.tbL.drop 120).take 24)=true:=by kernel_rfl
theorem Qjp:Yq prog Q8 ((F.tbL.drop 144).take 24)=true:=by kernel_rfl
theorem Qjq:Yq prog Q8 ((F.tbL.drop 168).take 24)=true:=by kernel_rfl
theorem Qjr:Yq prog Q8 ((F.tbL.drop 192).take 24)=true:=by kernel_rfl
theorem Qjs:Yq prog Q8 ((F.tbL.drop 216).take 24)=true:=by kernel_rfl
theorem Qib:Yq prog Q8 ((F.tbL.drop 240).take 24)=true:=by kernel_rfl
theorem Qic:Yq prog Q8 ((F.tbL.drop 264).take 24)=true:=by kernel_rfl
theorem Qid:Yq prog Q8 ((F.tbL.drop 288).take 24)=true:=by kernel_rfl
theorem QgV:Yq prog Q8 (F.tbL.drop 312)=true:=by kernel_rfl
theorem QgU:Yq prog Q8 (F.tbL.drop 288)=true:=YL 24 Qid (by rw[List.drop_drop];exact QgV)
theorem QgT:Yq prog Q8 (F.tbL.drop 264)=true:=YL 24 Qic (by rw[List.drop_drop];exact QgU)
theorem QgS:Yq prog Q8 (F.tbL.drop 240)=true:=YL 24 Qib (by rw[List.drop_drop];exact QgT)
theorem Qin:Yq prog Q8 (F.tbL.drop 216)=true:=YL 24 Qjs (by rw[List.drop_drop];exact QgS)
theorem Qim:Yq prog Q8 (F.tbL.drop 192)=true:=YL 24 Qjr (by rw[List.drop_drop];exact Qin)
theorem Qil:Yq prog Q8 (F.tbL.drop 168)=true:=YL 24 Qjq (by rw[List.drop_drop];exact Qim)
theorem Qik:Yq prog Q8 (F.tbL.drop 144)=true:=YL 24 Qjp (by rw[List.drop_drop];exact Qil)
theorem Qij:Yq prog Q8 (F.tbL.drop 120)=true:=YL 24 Qjo (by rw[List.drop_drop];exact Qik)
theorem Qii:Yq prog Q8 (F.tbL.drop 96)=true:=YL 24 Qjn (by rw[List.drop_drop];exact Qij)
theorem Qih:Yq prog Q8 (F.tbL.drop 72)=true:=YL 24 Qjm (by rw[List.drop_drop];exact Qii)
theorem Qig:Yq prog Q8 (F.tbL.drop 48)=true:=YL 24 Qjl (by rw[List.drop_drop];exact Qih)
theorem Qif:Yq prog Q8 (F.tbL.drop 24)=true:=YL 24 Qjk (by rw[List.drop_drop];exact Qig)
theorem Qie:Yq prog Q8 (F.tbL.drop 0)=true:=YL 24 Qjj (by rw[List.drop_drop];exact Qif)
theorem Qjt:Yq prog Q8 F.tbL=true:=Qie
theorem mixed:prog.follows .mixedOrders=true:=by kernel_rfl
def tbS:List (Nat×AFn):=[(30,.code F.f30),(31,.code F.f31),(32,.code F.f32),(33,.orc (YZ Nz))]
theorem QhH: ∀f,S.tb f=tbS.lookup f:=fun f=>by
 unfold S.tb tbS;by_cases h0:f=30
 ·subst h0;rfl
 by_cases h1:f=31
 ·subst h1;rfl
 by_cases h2:f=32
 ·subst h2;rfl
 by_cases h3:f=33
 ·subst h3;rfl
 have e0: (f == 30)=false:=by simpa using h0
 have e1: (f == 31)=false:=by simpa using h1
 have e2: (f == 32)=false:=by simpa using h2
 have e3: (f == 33)=false:=by simpa using h3
 rw[if_neg h0,if_neg h1,if_neg h2,if_neg h3];simp[List.lookup,e0,e1,e2,e3]
section
attribute [local instance] drT
theorem QiI:M0 prog num Eu S.tb:=IY [33] QhH mixed Pm (by kernel_rfl) (by kernel_rfl) (WO (X4 S.tb_33 (show Q8.lookup 33=some 115 from rfl) (G7 fun a b w=>strings_Compare a b w)) Qhr)
end
theorem Qji:MP prog num 67:=QdT (by kernel_rfl) QiI
instance drF:Dr:=⟨False⟩
theorem hD: ¬Dr.d:=fun h=>h
theorem Qhw:Oat prog Q8 Ww F.tb 33:=X4 F.tb_33 (show Q8.lookup 33=some 115 from rfl) (G7 fun a b w=>strings_Compare a b w)
theorem Qes:Oat prog Q8 Ww F.tb 164:=X4 F.tb_164 (show Q8.lookup 164=some 188 from rfl) (QbM hD fun s c w h1 h2 h3=>Go.Proofs.Any.strings_Trim_laid lays160 (by kernel_rfl) s c w h1 h2 h3)
theorem Qet:Oat prog Q8 Ww F.tb 170:=X4 F.tb_170 (show Q8.lookup 170=some 66 from rfl) (QbE hD laysSortFunc rfl (fun w=>Z5 (by kernel_rfl)) (fun w=>Q4 (by kernel_rfl)) (QbD (VG Pm) (by kernel_rfl) Qji))
theorem Qeu:Oat prog Q8 Ww F.tb 181:=X4 F.tb_181 (show Q8.lookup 181=some 176 from rfl) (BG hD laysGrow rfl (z:= .agg #[.int .i64 0,.string ⟨#[]⟩,.int .i64 0,.slice none 0 0]) (by kernel_rfl) (by decide) (by kernel_rfl))
theorem Qev:Oat prog Q8 Ww F.tb 193:=X4 F.tb_193 (show Q8.lookup 193=some 119 from rfl) (VD mixed (VG Pm) func119 Vg)
theorem Qew:Oat prog Q8 Ww F.tb 194:=X4 F.tb_194 (show Q8.lookup 194=some 257 from rfl) (Fo hD (Wq.con func257 (by decide)))
theorem Qex:Oat prog Q8 Ww F.tb 372:=X4 F.tb_372 (show Q8.lookup 372=some 265 from rfl) (VD mixed (VG Pm) func265 Vf)
theorem Qey:Oat prog Q8 Ww F.tb 485:=X4 F.tb_485 (show Q8.lookup 485=some 276 from rfl) (Qek hD fun s c w=>stringslite_IndexByte s c w)
theorem Qez:Oat prog Q8 Ww F.tb 499:=X4 F.tb_499 (show Q8.lookup 499=some 53 from rfl) (VD mixed (VG Pm) func53 V8)
theorem QeA:Oat prog Q8 Ww F.tb 525:=X4 F.tb_525 (show Q8.lookup 525=some 185 from rfl) (VD mixed (VG Pm) func185 Wx)
theorem QeB:Oat prog Q8 Ww F.tb 526:=X4 F.tb_526 (show Q8.lookup 526=some 184 from rfl) (Fo hD Qht)
theorem QeC:Oat prog Q8 Ww F.tb 557:=X4 F.tb_557 (show Q8.lookup 557=some 313 from rfl) (VD mixed (VG Pm) func313 WQ)
theorem QeD:Oat prog Q8 Ww F.tb 595:=X4 F.tb_595 (show Q8.lookup 595=some 8 from rfl) (VD mixed (VG Pm) func8 Wf)
theorem fits:M0 prog num Ww F.tb:=IY [33,164,170,181,193,194,372,485,499,525,526,557,595] (fun _=>rfl) mixed Pm Qjt (by kernel_rfl) (WO Qhw (WO Qes (WO Qet (WO Qeu (WO Qev (WO Qew (WO Qex (WO Qey (WO Qez (WO QeA (WO QeB (WO QeC (WO QeD (Qhr))))))))))))))
end Go.Am.Chk
