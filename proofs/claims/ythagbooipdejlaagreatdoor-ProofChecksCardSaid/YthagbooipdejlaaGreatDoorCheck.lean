/-
  AmCheck.
-/
import Derived.Test.YthagbooipdejlaaGreatDoorG43
import Derived.Test.YthagbooipdejlaaGreatDoorG13
import Derived.Test.YthagbooipdejlaaGreatDoorG10
import Derived.Test.YthagbooipdejlaaGreatDoorG44
import Derived.Test.YthagbooipdejlaaGreatDoorG45
import Derived.Test.YthagbooipdejlaaGreatDoorG14
import Derived.Test.YthagbooipdejlaaGreatDoorG09
import Derived.Test.YthagbooipdejlaaGreatDoorG46
import Derived.WalkKit
import Derived.Test.YthagbooipdejlaaGreatDoorShelf
import Derived.Test.YthagbooipdejlaaGreatDoorProg
set_option linter.all false
namespace Go.Am.Chk
open Go.Proofs.Tryz
set_option maxRecDepth 20000
def ZE:List (Nat×Nat):=[(6,100),(7,185),(8,281),(9,317),(18,155),(30,49),(31,109),(32,108),(33,110),(41,46),(42,101),(43,107),(44,190),(45,287),(46,266),(47,344),(48,283),(49,352),(54,71),(55,146),(56,231),(57,144),(58,228),(59,229),(60,134),(61,147),(63,230),(71,265),(73,89),(74,165),(75,257),(76,79),(89,25),(90,64),(91,133),(101,17),(102,45),(120,62),(126,54),(127,121),(128,125),(129,207),(130,203),(131,204),(132,127),(153,32),(154,70),(155,143),(156,145),(159,40),(160,88),(161,164),(162,256),(163,90),(164,166),(165,47),(166,102),(167,187),(168,186),(169,188),(170,158),(171,282),(172,159),(173,48),(174,103),(175,189),(176,284),(177,104),(178,115),(179,192),(180,135),(181,221),(182,194),(183,193),(184,195),(185,289),(186,120),(187,202),(188,290),(189,198),(190,293),(191,292),(192,291),(193,157),(194,294),(195,295),(196,285),(197,196),(198,351),(199,286),(200,117),(201,197),(202,199),(203,297),(204,296),(205,355),(206,106),(207,105),(214,67),(215,139),(231,59),(232,126),(233,22),(234,55),(235,122),(236,205),(237,124),(238,225),(239,311),(240,56),(241,123),(242,206),(243,305),(244,128),(245,209),(246,208),(247,211),(248,210),(249,308),(250,31),(251,212),(252,306),(253,130),(254,213),(255,309),(256,214),(257,310),(258,359),(259,215),(260,377),(261,307),(262,219),(263,312),(265,141),(293,30),(294,69),(295,140),(296,142),(297,226),(298,227),(318,218),(319,220),(324,216),(326,217),(337,61),(340,132),(348,7),(349,19),(350,20),(351,21),(352,50),(353,51),(354,111),(355,112),(356,95),(357,172),(358,113),(359,52),(360,114),(361,53),(362,116),(363,118),(365,119),(366,200),(367,201),(368,298),(369,300),(370,299),(371,356),(372,302),(373,301),(375,357),(377,303),(378,358),(384,8),(385,23),(386,57),(387,58),(388,24),(389,60),(390,63),(391,129),(392,131),(418,168),(483,74),(484,148),(497,159),(511,137),(512,223),(517,38),(518,65),(519,136),(520,222),(521,138),(522,224),(523,162),(524,163),(525,255),(526,254),(527,84),(528,160),(529,85),(530,86),(531,161),(532,249),(533,331),(534,250),(535,333),(536,334),(537,332),(538,369),(539,251),(540,335),(541,169),(542,267),(543,345),(544,269),(545,348),(546,358),(547,346),(548,268),(549,271),(550,347),(551,270),(552,252),(553,336),(554,337),(555,338),(556,370),(557,384),(558,385),(559,383),(560,273),(561,349),(562,374),(563,303),(564,389),(565,394),(566,390),(567,375),(568,253),(598,304),(599,95),(600,172),(608,26),(633,4),(634,11),(635,12),(636,33),(637,72),(639,34),(640,75),(641,35),(642,76),(643,149),(644,236),(645,315),(646,36),(647,77),(648,150),(649,78),(650,151),(651,237),(652,316),(653,238),(654,239),(655,37),(656,80),(657,154),(658,245),(659,81),(660,156),(661,83),(662,82),(663,13),(664,39),(665,87),(666,66),(667,41),(668,42),(669,96),(670,97),(671,173),(672,14),(673,16),(695,15),(696,18),(699,3),(700,5),(701,6),(702,9),(703,28),(704,29),(705,68),(706,27),(707,10),(735,321),(736,91),(737,167),(738,92),(739,93),(740,170),(741,94),(742,171),(743,272),(744,274),(745,43),(746,44)]
def num:Nat→Option Nat:=fun f=>ZE.lookup f
theorem Tq:S8 prog num true 56 4 f157=true:=by kernel_rfl
theorem Tp:S8 prog num false 24 1 f302=true:=by kernel_rfl
theorem Uy:S8 prog num true 56 4 f255=true:=by kernel_rfl
theorem UV:S8 prog num true 64 5 f384=true:=by kernel_rfl
theorem P0:S8 prog num false 8 1 f173=true:=by kernel_rfl
theorem Qox:prog.follows .mixedOrders=true:=by kernel_rfl
def O4:Go.Shelf.Ren:=⟨fun n=>match n with | 29=>353 | 30=>354 | 22=>294 | n=>n,fun n=>match n with | 24=>135 | 9=>203 | 3=>3 | 4=>4 | 0=>0 | n=>n,fun n=>n⟩
theorem Uk:Sb prog O4 f294 5 64 (.agg #[.int .i64 0,.string ⟨#[]⟩,.int .i64 0,.slice none 0 0,.int .i64 0]) where
 mixed:=Qox
 body:=by kernel_rfl
 ntmps:=by kernel_rfl
 res:=by kernel_rfl
 f29:=fun args w=>run_callFunc_extern (f:=O4.f 29) (fn:=f353) func353 (by kernel_rfl) (by kernel_rfl) (by kernel_rfl) (e:=Extern.SlicesOverlaps.overlaps #[O4.t 24,O4.t 24] #[O4.t 4]) (by kernel_rfl) args w
 t0:=by kernel_rfl
 t3:=by kernel_rfl
 t4:=by kernel_rfl
 t24:=by kernel_rfl
 i9:=by kernel_rfl
 zc:=by kernel_rfl
 a3:=fun w=>Y0 (by kernel_rfl)
 a4:=fun w=>Y0 (by kernel_rfl)
 a24:=fun w=>Y0 (by kernel_rfl)
 z3:=fun w=>ZJ (by kernel_rfl)
 z4:=fun w=>ZJ (by kernel_rfl)
 z9:=fun w=>ZJ (by kernel_rfl)
 z24:=fun w=>ZJ (by kernel_rfl)
theorem Lc: (ZE.all fun p=>Qat prog p.2)=true:=by kernel_rfl
theorem QqB:Xz prog ZE ((F.tbL.drop 0).take 24)=true:=by kernel_rfl
theorem QqC:Xz prog ZE ((F.tbL.drop 24).take 24)=true:=by kernel_rfl
theorem QqD:Xz prog ZE ((F.tbL.drop 48).take 24)=true:=by kernel_rfl
theorem QqE:Xz prog ZE ((F.tbL.drop 72).take 24)=true:=by kernel_rfl
theorem QqF:Xz prog ZE ((F.tbL.drop 96).take 24)=true:=by kernel_rfl
theorem QqG:Xz prog ZE ((F.tbL.drop 120).take 24)=true:=by kernel_rfl
theorem QqH:Xz prog ZE ((F.tbL.drop 144).take 24)=true:=by kernel_rfl
theorem QqI:Xz prog ZE ((F.tbL.drop 168).take 24)=true:=by kernel_rfl
theorem QqJ:Xz prog ZE ((F.tbL.drop 192).take 24)=true:=by kernel_rfl
theorem QqK:Xz prog ZE ((F.tbL.drop 216).take 24)=true:=by kernel_rfl
theorem Qpu:Xz prog ZE ((F.tbL.drop 240).take 24)=true:=by kernel_rfl
theorem Qpv:Xz prog ZE ((F.tbL.drop 264).take 24)=true:=by kernel_rfl
theorem Qpw:Xz prog ZE ((F.tbL.drop 288).take 24)=true:=by kernel_rfl
theorem QnK:Xz prog ZE (F.tbL.drop 312)=true:=by kernel_rfl
theorem QnJ:Xz prog ZE (F.tbL.drop 288)=true:=XY 24 Qpw (by rw[List.drop_drop];exact QnK)
theorem QnI:Xz prog ZE (F.tbL.drop 264)=true:=XY 24 Qpv (by rw[List.drop_drop];exact QnJ)
theorem QnH:Xz prog ZE (F.tbL.drop 240)=true:=XY 24 Qpu (by rw[List.drop_drop];exact QnI)
theorem QpG:Xz prog ZE (F.tbL.drop 216)=true:=XY 24 QqK (by rw[List.drop_drop];exact QnH)
theorem QpF:Xz prog ZE (F.tbL.drop 192)=true:=XY 24 QqJ (by rw[List.drop_drop];exact QpG)
theorem QpE:Xz prog ZE (F.tbL.drop 168)=true:=XY 24 QqI (by rw[List.drop_drop];exact QpF)
theorem QpD:Xz prog ZE (F.tbL.drop 144)=true:=XY 24 QqH (by rw[List.drop_drop];exact QpE)
theorem QpC:Xz prog ZE (F.tbL.drop 120)=true:=XY 24 QqG (by rw[List.drop_drop];exact QpD)
theorem QpB:Xz prog ZE (F.tbL.drop 96)=true:=XY 24 QqF (by rw[List.drop_drop];exact QpC)
theorem QpA:Xz prog ZE (F.tbL.drop 72)=true:=XY 24 QqE (by rw[List.drop_drop];exact QpB)
theorem Qpz:Xz prog ZE (F.tbL.drop 48)=true:=XY 24 QqD (by rw[List.drop_drop];exact QpA)
theorem Qpy:Xz prog ZE (F.tbL.drop 24)=true:=XY 24 QqC (by rw[List.drop_drop];exact Qpz)
theorem Qpx:Xz prog ZE (F.tbL.drop 0)=true:=XY 24 QqB (by rw[List.drop_drop];exact Qpy)
theorem QqL:Xz prog ZE F.tbL=true:=Qpx
theorem mixed:prog.follows .mixedOrders=true:=by kernel_rfl
def tbS:List (Nat×AFn):=[(30,.code F.f30),(31,.code F.f31),(32,.code F.f32),(33,.orc (YL Kl))]
theorem QoR: ∀f,S.tb f=tbS.lookup f:=fun f=>by
 unfold S.tb tbS;by_cases h0:f=30
 ·subst h0;rfl
 by_cases h1:f=31
 ·subst h1;rfl
 by_cases h2:f=32
 ·subst h2;rfl
 by_cases h3:f=33
 ·subst h3;rfl
 have e0: (f == 30)=false:=by simpa using h0
 have e1: (f == 31)=false:=by simpa using h1
 have e2: (f == 32)=false:=by simpa using h2
 have e3: (f == 33)=false:=by simpa using h3
 rw[if_neg h0,if_neg h1,if_neg h2,if_neg h3];simp[List.lookup,e0,e1,e2,e3]
section
attribute [local instance] drT
theorem hnT: ∀k g,prog.globalNamed (LB k)=some g→k=0∧some 1=some g:=fun k g h=>by
 cases k with
 | zero=>exact⟨rfl,(show prog.globalNamed "sealring/term.words" =some 1 by kernel_rfl).symm.trans h⟩
 | succ k=>exact absurd (h.symm.trans (show prog.globalNamed "" =none by kernel_rfl)) (by simp)
theorem QpT:Ih prog num (Gd (some 1)) S.tb:=Dd [33] QoR mixed Lc (by kernel_rfl) (by kernel_rfl) (VC (Ww S.tb_33 (show ZE.lookup 33=some 110 from rfl) (BG fun a b w=>strings_Compare a b w)) Qoo) hnT
end
theorem QqA:Ig prog num (some 1) 49:=QiV (by kernel_rfl) QpT
instance drF:Dr:=⟨False⟩
theorem hD: ¬Dr.d:=fun h=>h
theorem hnm: ∀k g,prog.globalNamed (LB k)=some g→(XE prog 1 0).nm k g:=fun k g h=>by
 cases k with
 | zero=>exact⟨rfl,Option.some.inj (h.symm.trans (show prog.globalNamed "sealring/term.words" =some 1 by kernel_rfl))⟩
 | succ k=>exact absurd (h.symm.trans (show prog.globalNamed "" =none by kernel_rfl)) (by simp)
theorem Ah {α:Type} {o:Option α} (h:o.isSome=true):o≠none:=fun e=>by rw[e]at h;cases h
theorem Qoy:Oat prog ZE (XE prog 1 0) F.tb 18:=Ww F.tb_18 (show ZE.lookup 18=some 155 from rfl) (Qf1 (Γ:=XE prog 1 0) (fun _ _ h=>h.1) fun n h0 h1 w ht=>strconv_Itoa n h0 h1 w ht)
theorem Qoz:Oat prog ZE (XE prog 1 0) F.tb 33:=Ww F.tb_33 (show ZE.lookup 33=some 110 from rfl) (BG fun a b w=>strings_Compare a b w)
theorem QoA:Oat prog ZE (XE prog 1 0) F.tb 76:=Ww F.tb_76 (show ZE.lookup 76=some 79 from rfl) (Qfb (Γ:=XE prog 1 0) (fun _ _ h=>h.1) hD (Ah (by kernel_rfl)) (Ah (by kernel_rfl)) (fun s hs v hv w=>(strconv_Atoi_ok s hs v hv w).mono fun e w2 h=>by obtain⟨h1,h2⟩:=h;refine⟨h1,?_⟩;rcases h2 with rfl | ⟨t,rfl⟩;exact Go.RowKit.Below.refl _ _;exact Lib.bytesWorld_below _ _ _) (fun s hs hv tp p w hvar=>(strconv_Atoi_syntax_var s hs hv tp p w hvar).mono fun e w2 h=>by obtain⟨N,h1,_,_,h4⟩:=h;exact⟨_,_,h1,h4⟩) (fun s hs hv tp p w hvar=>(strconv_Atoi_range_var s hs hv tp p w hvar).mono fun e w2 h=>by obtain⟨N,h1,_,_,h4⟩:=h;exact⟨_,_,h1,h4⟩))
theorem QjL:Oat prog ZE (XE prog 1 0) F.tb 164:=Ww F.tb_164 (show ZE.lookup 164=some 166 from rfl) (QgW hD fun s c w h1 h2 h3=>Go.Proofs.Any.strings_Trim_laid lays160 (by kernel_rfl) s c w h1 h2 h3)
theorem QjM:Oat prog ZE (XE prog 1 0) F.tb 170:=Ww F.tb_170 (show ZE.lookup 170=some 158 from rfl) (QgO hD laysSortFunc rfl (fun w=>Y0 (by kernel_rfl)) (fun w=>ZJ (by kernel_rfl)) (fun w m h g e=>by cases e;exact h.2.2) (fun g e=>by cases e;exact of_decide_eq_true (by kernel_rfl)) (QgN (S1 Lc) (by kernel_rfl) QqA))
theorem QjN:Oat prog ZE (XE prog 1 0) F.tb 181:=Ww F.tb_181 (show ZE.lookup 181=some 221 from rfl) (QdL hD laysGrow rfl (z:= .agg #[.int .i64 0,.string ⟨#[]⟩,.int .i64 0,.slice none 0 0]) (by kernel_rfl) (by decide) (by kernel_rfl))
theorem QjO:Oat prog ZE (XE prog 1 0) F.tb 193:=Ww F.tb_193 (show ZE.lookup 193=some 157 from rfl) (RA hnm mixed (S1 Lc) func157 Tq)
theorem QjP:Oat prog ZE (XE prog 1 0) F.tb 194:=Ww F.tb_194 (show ZE.lookup 194=some 294 from rfl) (Aa hD (Uk.con func294 (by decide)))
theorem QjQ:Oat prog ZE (XE prog 1 0) F.tb 372:=Ww F.tb_372 (show ZE.lookup 372=some 302 from rfl) (RA hnm mixed (S1 Lc) func302 Tp)
theorem QjR:Oat prog ZE (XE prog 1 0) F.tb 484:=Ww F.tb_484 (show ZE.lookup 484=some 148 from rfl) (Qou hD (fun w m h=>h.2.1) fun s t m w hs hm=>stringslite_Index s t m w hs hm)
theorem QjS:Oat prog ZE (XE prog 1 0) F.tb 525:=Ww F.tb_525 (show ZE.lookup 525=some 255 from rfl) (RA hnm mixed (S1 Lc) func255 Uy)
theorem QjT:Oat prog ZE (XE prog 1 0) F.tb 526:=Ww F.tb_526 (show ZE.lookup 526=some 254 from rfl) (Aa hD Qoq)
theorem QjU:Oat prog ZE (XE prog 1 0) F.tb 557:=Ww F.tb_557 (show ZE.lookup 557=some 384 from rfl) (RA hnm mixed (S1 Lc) func384 UV)
theorem QjV:Oat prog ZE (XE prog 1 0) F.tb 636:=Ww F.tb_636 (show ZE.lookup 636=some 33 from rfl) (QiX hD fun s c w=>strings_Count_one s c w)
theorem QjW:Oat prog ZE (XE prog 1 0) F.tb 660:=Ww F.tb_660 (show ZE.lookup 660=some 156 from rfl) (QnC (fun b w h0=>QiT b w h0) (fun b w h0 h1 h2=>Qfk b w h0 h1 h2))
theorem QjX:Oat prog ZE (XE prog 1 0) F.tb 671:=Ww F.tb_671 (show ZE.lookup 671=some 173 from rfl) (RA hnm mixed (S1 Lc) func173 P0)
theorem QjY:Oat prog ZE (XE prog 1 0) F.tb 745:=Ww F.tb_745 (show ZE.lookup 745=some 43 from rfl) (QfY hD (fun blk off cap zs w hH hblk hsz=>slices_Sort_int blk off cap zs w hH hblk hsz) (fun p cap w=>slices_Sort_int_none p cap w))
theorem fits:Ih prog num (XE prog 1 0) F.tb:=Dd [18,33,76,164,170,181,193,194,372,484,525,526,557,636,660,671,745] (fun _=>rfl) mixed Lc QqL (by kernel_rfl) (VC Qoy (VC Qoz (VC QoA (VC QjL (VC QjM (VC QjN (VC QjO (VC QjP (VC QjQ (VC QjR (VC QjS (VC QjT (VC QjU (VC QjV (VC QjW (VC QjX (VC QjY (Qoo)))))))))))))))))) hnm
end Go.Am.Chk
