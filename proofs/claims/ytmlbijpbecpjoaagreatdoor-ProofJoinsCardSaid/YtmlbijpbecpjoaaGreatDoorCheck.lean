/-
  AmCheck.
-/
import Derived.Test.YtmlbijpbecpjoaaGreatDoorG43
import Derived.Test.YtmlbijpbecpjoaaGreatDoorG13
import Derived.Test.YtmlbijpbecpjoaaGreatDoorG10
import Derived.Test.YtmlbijpbecpjoaaGreatDoorG44
import Derived.Test.YtmlbijpbecpjoaaGreatDoorG45
import Derived.Test.YtmlbijpbecpjoaaGreatDoorG14
import Derived.Test.YtmlbijpbecpjoaaGreatDoorG09
import Derived.Test.YtmlbijpbecpjoaaGreatDoorG46
import Derived.WalkKit
import Derived.Test.YtmlbijpbecpjoaaGreatDoorShelf
import Derived.Test.YtmlbijpbecpjoaaGreatDoorProg
set_option linter.all false
namespace Go.Am.Chk
open Go.Proofs.Tryz
set_option maxRecDepth 20000
def Zy:List (Nat×Nat):=[(6,114),(7,195),(8,279),(9,306),(18,144),(30,46),(31,98),(32,97),(33,99),(41,59),(42,115),(43,121),(44,200),(45,285),(46,254),(47,334),(48,281),(49,344),(54,67),(55,135),(56,215),(57,133),(58,212),(59,213),(60,101),(61,136),(63,214),(71,253),(73,87),(74,157),(75,245),(76,75),(89,23),(90,48),(91,100),(101,19),(102,45),(120,57),(126,49),(127,102),(128,106),(129,181),(130,177),(131,178),(132,108),(153,31),(154,66),(155,132),(156,134),(159,40),(160,86),(161,156),(162,244),(163,88),(164,158),(165,60),(166,116),(167,197),(168,196),(169,198),(170,150),(171,280),(172,151),(173,61),(174,117),(175,199),(176,282),(177,118),(178,126),(179,201),(180,146),(181,232),(182,203),(183,202),(184,204),(185,286),(186,131),(187,211),(188,287),(189,207),(190,290),(191,289),(192,288),(193,11),(194,291),(195,292),(196,283),(197,205),(198,343),(199,284),(200,128),(201,206),(202,208),(203,294),(204,293),(205,347),(206,120),(207,119),(214,320),(215,360),(231,54),(232,107),(233,26),(234,50),(235,103),(236,179),(237,105),(238,270),(239,277),(240,51),(241,104),(242,180),(243,271),(244,109),(245,183),(246,182),(247,185),(248,184),(249,274),(250,342),(251,186),(252,272),(253,111),(254,187),(255,275),(256,188),(257,276),(258,341),(259,189),(260,368),(261,273),(262,193),(263,278),(318,192),(319,194),(324,190),(326,191),(337,56),(340,113),(348,12),(349,29),(350,21),(351,30),(352,62),(353,63),(354,122),(355,123),(356,93),(357,164),(358,124),(359,64),(360,125),(361,65),(362,127),(363,129),(365,130),(366,209),(367,210),(368,295),(369,297),(370,296),(371,348),(372,299),(373,298),(375,349),(377,300),(378,350),(384,10),(385,27),(386,52),(387,53),(388,28),(389,55),(390,58),(391,110),(392,112),(407,11),(418,160),(483,70),(484,137),(497,151),(511,148),(512,234),(517,37),(518,80),(519,147),(520,233),(521,149),(522,235),(523,154),(524,155),(525,243),(526,242),(527,81),(528,152),(529,82),(530,83),(531,153),(532,237),(533,321),(534,238),(535,323),(536,324),(537,322),(538,361),(539,239),(540,325),(541,161),(542,255),(543,335),(544,257),(545,338),(546,350),(547,336),(548,256),(549,259),(550,337),(551,258),(552,240),(553,326),(554,327),(555,328),(556,362),(557,376),(558,377),(559,375),(560,261),(561,339),(562,366),(563,300),(564,381),(565,386),(566,382),(567,367),(568,241),(595,20),(598,301),(599,93),(600,164),(608,38),(633,4),(634,13),(635,14),(636,32),(637,68),(639,33),(640,71),(641,34),(642,72),(643,138),(644,220),(645,304),(646,35),(647,73),(648,139),(649,74),(650,140),(651,221),(652,305),(653,222),(654,223),(655,36),(656,76),(657,143),(658,229),(659,77),(660,145),(661,79),(662,78),(663,15),(664,39),(665,85),(666,84),(667,41),(668,42),(669,94),(670,22),(671,47),(672,16),(673,18),(695,17),(696,6),(700,5),(709,9),(710,25),(711,3),(712,7),(713,22),(714,8),(715,24),(735,310),(736,89),(737,159),(738,90),(739,91),(740,162),(741,92),(742,163),(743,260),(744,262),(745,43),(746,44)]
def num:Nat→Option Nat:=fun f=>Zy.lookup f
theorem Tk:Ti prog num true 56 4 f11=true:=by kernel_rfl
theorem Tj:Ti prog num false 24 1 f299=true:=by kernel_rfl
theorem TC:Ti prog num false 56 4 f11=true:=by kernel_rfl
theorem Uo:Ti prog num true 56 4 f243=true:=by kernel_rfl
theorem UL:Ti prog num true 64 5 f376=true:=by kernel_rfl
theorem V3:Ti prog num false 120 8 f20=true:=by kernel_rfl
theorem PY:Ti prog num false 8 1 f47=true:=by kernel_rfl
theorem QnB:prog.follows .mixedOrders=true:=by kernel_rfl
def OW:Go.Shelf.Ren:=⟨fun n=>match n with | 29=>345 | 30=>346 | 22=>291 | n=>n,fun n=>match n with | 24=>134 | 9=>209 | 3=>3 | 4=>4 | 0=>0 | n=>n,fun n=>n⟩
theorem Uc:T9 prog OW f291 5 64 (.agg #[.int .i64 0,.string ⟨#[]⟩,.int .i64 0,.slice none 0 0,.int .i64 0]) where
 mixed:=QnB
 body:=by kernel_rfl
 ntmps:=by kernel_rfl
 res:=by kernel_rfl
 f29:=fun args w=>run_callFunc_extern (f:=OW.f 29) (fn:=f345) func345 (by kernel_rfl) (by kernel_rfl) (by kernel_rfl) (e:=Extern.SlicesOverlaps.overlaps #[OW.t 24,OW.t 24] #[OW.t 4]) (by kernel_rfl) args w
 t0:=by kernel_rfl
 t3:=by kernel_rfl
 t4:=by kernel_rfl
 t24:=by kernel_rfl
 i9:=by kernel_rfl
 zc:=by kernel_rfl
 a3:=fun w=>YX (by kernel_rfl)
 a4:=fun w=>YX (by kernel_rfl)
 a24:=fun w=>YX (by kernel_rfl)
 z3:=fun w=>ZH (by kernel_rfl)
 z4:=fun w=>ZH (by kernel_rfl)
 z9:=fun w=>ZH (by kernel_rfl)
 z24:=fun w=>ZH (by kernel_rfl)
theorem On: (Zy.all fun p=>AR prog p.2)=true:=by kernel_rfl
theorem Qpz:Xt prog Zy ((F.tbL.drop 0).take 24)=true:=by kernel_rfl
theorem QpA:Xt prog Zy ((F.tbL.drop 24).take 24)=true:=by kernel_rfl
theorem QpB:Xt prog Zy ((F.tbL.drop 48).take 24)=true:=by kernel_rfl
theorem QpC:Xt prog Zy ((F.tbL.drop 72).take 24)=true:=by kernel_rfl
theorem QpD:Xt prog Zy ((F.tbL.drop 96).take 24)=true:=by kernel_rfl
theorem QpE:Xt prog Zy ((F.tbL.drop 120).take 24)=true:=by kernel_rfl
theorem QpF:Xt prog Zy ((F.tbL.drop 144).take 24)=true:=by kernel_rfl
theorem QpG:Xt prog Zy ((F.tbL.drop 168).take 24)=true:=by kernel_rfl
theorem QpH:Xt prog Zy ((F.tbL.drop 192).take 24)=true:=by kernel_rfl
theorem QpI:Xt prog Zy ((F.tbL.drop 216).take 24)=true:=by kernel_rfl
theorem Qot:Xt prog Zy ((F.tbL.drop 240).take 24)=true:=by kernel_rfl
theorem Qou:Xt prog Zy ((F.tbL.drop 264).take 24)=true:=by kernel_rfl
theorem Qov:Xt prog Zy ((F.tbL.drop 288).take 24)=true:=by kernel_rfl
theorem QmR:Xt prog Zy (F.tbL.drop 312)=true:=by kernel_rfl
theorem QmQ:Xt prog Zy (F.tbL.drop 288)=true:=XW 24 Qov (by rw[List.drop_drop];exact QmR)
theorem QmP:Xt prog Zy (F.tbL.drop 264)=true:=XW 24 Qou (by rw[List.drop_drop];exact QmQ)
theorem QmO:Xt prog Zy (F.tbL.drop 240)=true:=XW 24 Qot (by rw[List.drop_drop];exact QmP)
theorem QoF:Xt prog Zy (F.tbL.drop 216)=true:=XW 24 QpI (by rw[List.drop_drop];exact QmO)
theorem QoE:Xt prog Zy (F.tbL.drop 192)=true:=XW 24 QpH (by rw[List.drop_drop];exact QoF)
theorem QoD:Xt prog Zy (F.tbL.drop 168)=true:=XW 24 QpG (by rw[List.drop_drop];exact QoE)
theorem QoC:Xt prog Zy (F.tbL.drop 144)=true:=XW 24 QpF (by rw[List.drop_drop];exact QoD)
theorem QoB:Xt prog Zy (F.tbL.drop 120)=true:=XW 24 QpE (by rw[List.drop_drop];exact QoC)
theorem QoA:Xt prog Zy (F.tbL.drop 96)=true:=XW 24 QpD (by rw[List.drop_drop];exact QoB)
theorem Qoz:Xt prog Zy (F.tbL.drop 72)=true:=XW 24 QpC (by rw[List.drop_drop];exact QoA)
theorem Qoy:Xt prog Zy (F.tbL.drop 48)=true:=XW 24 QpB (by rw[List.drop_drop];exact Qoz)
theorem Qox:Xt prog Zy (F.tbL.drop 24)=true:=XW 24 QpA (by rw[List.drop_drop];exact Qoy)
theorem Qow:Xt prog Zy (F.tbL.drop 0)=true:=XW 24 Qpz (by rw[List.drop_drop];exact Qox)
theorem QpJ:Xt prog Zy F.tbL=true:=Qow
theorem mixed:prog.follows .mixedOrders=true:=by kernel_rfl
def tbS:List (Nat×AFn):=[(30,.code F.f30),(31,.code F.f31),(32,.code F.f32),(33,.orc (YF L7))]
theorem QnS: ∀f,S.tb f=tbS.lookup f:=fun f=>by
 unfold S.tb tbS;by_cases h0:f=30
 ·subst h0;rfl
 by_cases h1:f=31
 ·subst h1;rfl
 by_cases h2:f=32
 ·subst h2;rfl
 by_cases h3:f=33
 ·subst h3;rfl
 have e0: (f == 30)=false:=by simpa using h0
 have e1: (f == 31)=false:=by simpa using h1
 have e2: (f == 32)=false:=by simpa using h2
 have e3: (f == 33)=false:=by simpa using h3
 rw[if_neg h0,if_neg h1,if_neg h2,if_neg h3];simp[List.lookup,e0,e1,e2,e3]
section
attribute [local instance] drT
theorem hnT: ∀k g,prog.globalNamed (Lj k)=some g→k=0∧some 1=some g:=fun k g h=>by
 cases k with
 | zero=>exact⟨rfl,(show prog.globalNamed "sealring/term.words" =some 1 by kernel_rfl).symm.trans h⟩
 | succ k=>exact absurd (h.symm.trans (show prog.globalNamed "" =none by kernel_rfl)) (by simp)
theorem QoR:JT prog num (HK (some 1)) S.tb:=EU [33] QnS mixed On (by kernel_rfl) (by kernel_rfl) (WX (XY S.tb_33 (show Zy.lookup 33=some 99 from rfl) (Bc fun a b w=>strings_Compare a b w)) Qnw) hnT
end
theorem Qpy:JS prog num (some 1) 46:=Qh0 (by kernel_rfl) QoR
instance drF:Dr:=⟨False⟩
theorem hD: ¬Dr.d:=fun h=>h
theorem hnm: ∀k g,prog.globalNamed (Lj k)=some g→(Xh prog 1 0).nm k g:=fun k g h=>by
 cases k with
 | zero=>exact⟨rfl,Option.some.inj (h.symm.trans (show prog.globalNamed "sealring/term.words" =some 1 by kernel_rfl))⟩
 | succ k=>exact absurd (h.symm.trans (show prog.globalNamed "" =none by kernel_rfl)) (by simp)
theorem BG {α:Type} {o:Option α} (h:o.isSome=true):o≠none:=fun e=>by rw[e]at h;cases h
theorem QnC:Oat prog Zy (Xh prog 1 0) F.tb 18:=XY F.tb_18 (show Zy.lookup 18=some 144 from rfl) (Qfp (Γ:=Xh prog 1 0) (fun _ _ h=>h.1) fun n h0 h1 w ht=>strconv_Itoa n h0 h1 w ht)
theorem QnD:Oat prog Zy (Xh prog 1 0) F.tb 33:=XY F.tb_33 (show Zy.lookup 33=some 99 from rfl) (Bc fun a b w=>strings_Compare a b w)
theorem QnE:Oat prog Zy (Xh prog 1 0) F.tb 76:=XY F.tb_76 (show Zy.lookup 76=some 75 from rfl) (QeB (Γ:=Xh prog 1 0) (fun _ _ h=>h.1) hD (BG (by kernel_rfl)) (BG (by kernel_rfl)) (fun s hs v hv w=>(strconv_Atoi_ok s hs v hv w).mono fun e w2 h=>by obtain⟨h1,h2⟩:=h;refine⟨h1,?_⟩;rcases h2 with rfl | ⟨t,rfl⟩;exact Go.RowKit.Below.refl _ _;exact Lib.bytesWorld_below _ _ _) (fun s hs hv tp p w hvar=>(strconv_Atoi_syntax_var s hs hv tp p w hvar).mono fun e w2 h=>by obtain⟨N,h1,_,_,h4⟩:=h;exact⟨_,_,h1,h4⟩) (fun s hs hv tp p w hvar=>(strconv_Atoi_range_var s hs hv tp p w hvar).mono fun e w2 h=>by obtain⟨N,h1,_,_,h4⟩:=h;exact⟨_,_,h1,h4⟩))
theorem QiV:Oat prog Zy (Xh prog 1 0) F.tb 164:=XY F.tb_164 (show Zy.lookup 164=some 158 from rfl) (Qgf hD fun s c w h1 h2 h3=>Go.Proofs.Any.strings_Trim_laid lays160 (by kernel_rfl) s c w h1 h2 h3)
theorem QiW:Oat prog Zy (Xh prog 1 0) F.tb 170:=XY F.tb_170 (show Zy.lookup 170=some 150 from rfl) (Qf8 hD laysSortFunc rfl (fun w=>YX (by kernel_rfl)) (fun w=>ZH (by kernel_rfl)) (fun w m h g e=>by cases e;exact h.2.2) (fun g e=>by cases e;exact of_decide_eq_true (by kernel_rfl)) (Qf7 (Tc On) (by kernel_rfl) Qpy))
theorem QiX:Oat prog Zy (Xh prog 1 0) F.tb 181:=XY F.tb_181 (show Zy.lookup 181=some 232 from rfl) (Qdb hD laysGrow rfl (z:= .agg #[.int .i64 0,.string ⟨#[]⟩,.int .i64 0,.slice none 0 0]) (by kernel_rfl) (by decide) (by kernel_rfl))
theorem QiY:Oat prog Zy (Xh prog 1 0) F.tb 193:=XY F.tb_193 (show Zy.lookup 193=some 11 from rfl) (UT hnm mixed (Tc On) func11 Tk)
theorem QiZ:Oat prog Zy (Xh prog 1 0) F.tb 194:=XY F.tb_194 (show Zy.lookup 194=some 291 from rfl) (BB hD (Uc.con func291 (by decide)))
theorem Qi0:Oat prog Zy (Xh prog 1 0) F.tb 372:=XY F.tb_372 (show Zy.lookup 372=some 299 from rfl) (UT hnm mixed (Tc On) func299 Tj)
theorem Qi1:Oat prog Zy (Xh prog 1 0) F.tb 407:=XY F.tb_407 (show Zy.lookup 407=some 11 from rfl) (UT hnm mixed (Tc On) func11 TC)
theorem Qi2:Oat prog Zy (Xh prog 1 0) F.tb 484:=XY F.tb_484 (show Zy.lookup 484=some 137 from rfl) (Qny hD (fun w m h=>h.2.1) fun s t m w hs hm=>stringslite_Index s t m w hs hm)
theorem Qi3:Oat prog Zy (Xh prog 1 0) F.tb 525:=XY F.tb_525 (show Zy.lookup 525=some 243 from rfl) (UT hnm mixed (Tc On) func243 Uo)
theorem Qi4:Oat prog Zy (Xh prog 1 0) F.tb 526:=XY F.tb_526 (show Zy.lookup 526=some 242 from rfl) (BB hD Qnx)
theorem Qi5:Oat prog Zy (Xh prog 1 0) F.tb 557:=XY F.tb_557 (show Zy.lookup 557=some 376 from rfl) (UT hnm mixed (Tc On) func376 UL)
theorem Qi6:Oat prog Zy (Xh prog 1 0) F.tb 595:=XY F.tb_595 (show Zy.lookup 595=some 20 from rfl) (UT hnm mixed (Tc On) func20 V3)
theorem Qi7:Oat prog Zy (Xh prog 1 0) F.tb 636:=XY F.tb_636 (show Zy.lookup 636=some 32 from rfl) (Qh2 hD fun s c w=>strings_Count_one s c w)
theorem Qi8:Oat prog Zy (Xh prog 1 0) F.tb 660:=XY F.tb_660 (show Zy.lookup 660=some 145 from rfl) (QmJ (fun b w h0=>QhY b w h0) (fun b w h0 h1 h2=>QeL b w h0 h1 h2))
theorem Qi9:Oat prog Zy (Xh prog 1 0) F.tb 671:=XY F.tb_671 (show Zy.lookup 671=some 47 from rfl) (UT hnm mixed (Tc On) func47 PY)
theorem Qja:Oat prog Zy (Xh prog 1 0) F.tb 745:=XY F.tb_745 (show Zy.lookup 745=some 43 from rfl) (Qfm hD (fun blk off cap zs w hH hblk hsz=>slices_Sort_int blk off cap zs w hH hblk hsz) (fun p cap w=>slices_Sort_int_none p cap w))
theorem fits:JT prog num (Xh prog 1 0) F.tb:=EU [18,33,76,164,170,181,193,194,372,407,484,525,526,557,595,636,660,671,745] (fun _=>rfl) mixed On QpJ (by kernel_rfl) (WX QnC (WX QnD (WX QnE (WX QiV (WX QiW (WX QiX (WX QiY (WX QiZ (WX Qi0 (WX Qi1 (WX Qi2 (WX Qi3 (WX Qi4 (WX Qi5 (WX Qi6 (WX Qi7 (WX Qi8 (WX Qi9 (WX Qja (Qnw)))))))))))))))))))) hnm
end Go.Am.Chk
