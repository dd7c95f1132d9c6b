/-
  AmCheck.
-/
import Derived.Test.YtmlbinmlblbfgaaGreatDoorG39
import Derived.Test.YtmlbinmlblbfgaaGreatDoorG13
import Derived.Test.YtmlbinmlblbfgaaGreatDoorG10
import Derived.Test.YtmlbinmlblbfgaaGreatDoorG40
import Derived.Test.YtmlbinmlblbfgaaGreatDoorG41
import Derived.Test.YtmlbinmlblbfgaaGreatDoorG14
import Derived.Test.YtmlbinmlblbfgaaGreatDoorG09
import Derived.Test.YtmlbinmlblbfgaaGreatDoorG42
import Derived.WalkKit
import Derived.Test.YtmlbinmlblbfgaaGreatDoorShelf
import Derived.Test.YtmlbinmlblbfgaaGreatDoorProg
set_option linter.all false
namespace Go.Am.Chk
open Go.Proofs.Tryz
set_option maxRecDepth 20000
def Zj:List (Nat×Nat):=[(6,95),(7,162),(8,236),(9,245),(18,53),(30,89),(31,146),(32,145),(33,147),(41,86),(42,138),(43,144),(44,223),(45,290),(46,206),(47,273),(48,250),(49,323),(53,58),(54,70),(55,112),(56,181),(57,110),(58,179),(59,180),(60,108),(61,113),(62,100),(63,165),(71,205),(73,78),(74,126),(75,197),(76,66),(89,31),(90,67),(91,107),(101,18),(102,46),(153,34),(154,69),(155,109),(156,111),(159,38),(160,77),(161,125),(162,196),(163,79),(164,127),(165,87),(166,139),(167,221),(168,184),(169,186),(170,119),(171,249),(172,120),(173,88),(174,140),(175,222),(176,287),(177,141),(178,149),(179,207),(180,114),(181,182),(182,226),(183,225),(184,227),(185,292),(186,136),(187,220),(188,278),(189,215),(190,281),(191,280),(192,279),(193,118),(194,282),(195,283),(196,288),(197,213),(198,322),(199,289),(200,133),(201,214),(202,216),(203,285),(204,284),(205,319),(206,143),(207,142),(214,259),(215,310),(348,14),(349,41),(350,42),(351,43),(352,19),(353,47),(354,48),(355,50),(356,49),(357,94),(358,51),(359,90),(360,148),(361,91),(362,132),(363,134),(365,150),(366,228),(367,229),(368,293),(369,295),(370,294),(371,324),(372,297),(373,296),(375,325),(377,298),(378,316),(385,24),(386,55),(387,56),(418,129),(483,61),(484,101),(497,120),(511,116),(512,185),(517,35),(518,71),(519,115),(520,183),(521,117),(522,187),(523,123),(524,124),(525,195),(526,194),(527,72),(528,121),(529,73),(530,74),(531,122),(532,189),(533,260),(534,190),(535,262),(536,263),(537,261),(538,311),(539,191),(540,264),(541,130),(542,208),(543,274),(544,210),(545,277),(546,316),(547,275),(548,209),(549,212),(550,276),(551,211),(552,192),(553,265),(554,266),(555,267),(556,312),(557,330),(558,331),(559,329),(560,218),(561,286),(562,320),(563,298),(564,336),(565,339),(566,337),(567,321),(568,193),(598,299),(599,49),(600,94),(608,36),(633,5),(634,12),(635,9),(636,26),(637,59),(639,27),(640,62),(641,28),(642,63),(643,102),(644,170),(645,243),(646,29),(647,64),(648,103),(649,65),(650,104),(651,171),(652,244),(653,172),(654,173),(655,7),(656,20),(657,52),(658,96),(659,21),(660,54),(661,23),(662,22),(663,13),(664,37),(665,76),(666,75),(667,39),(668,40),(669,84),(670,85),(671,137),(672,15),(673,17),(695,16),(696,6),(709,10),(710,30),(716,3),(717,8),(718,25),(719,57),(720,99),(721,4),(722,11),(723,32),(724,33),(725,68),(735,163),(736,80),(737,128),(738,81),(739,82),(740,131),(741,83),(742,135),(743,217),(744,219),(745,44),(746,45)]
def num:Nat→Option Nat:=fun f=>Zj.lookup f
theorem Vs:UR prog num true 56 4 f118=true:=by kernel_rfl
theorem Vr:UR prog num false 24 1 f297=true:=by kernel_rfl
theorem WA:UR prog num true 56 4 f195=true:=by kernel_rfl
theorem W5:UR prog num true 64 5 f330=true:=by kernel_rfl
theorem Sh:UR prog num false 8 1 f137=true:=by kernel_rfl
theorem QhS:prog.follows .mixedOrders=true:=by kernel_rfl
def S3:Go.Shelf.Ren:=⟨fun n=>match n with | 29=>317 | 30=>318 | 22=>282 | n=>n,fun n=>match n with | 24=>155 | 9=>205 | 3=>3 | 4=>4 | 0=>0 | n=>n,fun n=>n⟩
theorem Wl:V4 prog S3 f282 5 64 (.agg #[.int .i64 0,.string ⟨#[]⟩,.int .i64 0,.slice none 0 0,.int .i64 0]) where
 mixed:=QhS
 body:=by kernel_rfl
 ntmps:=by kernel_rfl
 res:=by kernel_rfl
 f29:=fun args w=>run_callFunc_extern (f:=S3.f 29) (fn:=f317) func317 (by kernel_rfl) (by kernel_rfl) (by kernel_rfl) (e:=Extern.SlicesOverlaps.overlaps #[S3.t 24,S3.t 24] #[S3.t 4]) (by kernel_rfl) args w
 t0:=by kernel_rfl
 t3:=by kernel_rfl
 t4:=by kernel_rfl
 t24:=by kernel_rfl
 i9:=by kernel_rfl
 zc:=by kernel_rfl
 a3:=fun w=>Z6 (by kernel_rfl)
 a4:=fun w=>Z6 (by kernel_rfl)
 a24:=fun w=>Z6 (by kernel_rfl)
 z3:=fun w=>Zc (by kernel_rfl)
 z4:=fun w=>Zc (by kernel_rfl)
 z9:=fun w=>Zc (by kernel_rfl)
 z24:=fun w=>Zc (by kernel_rfl)
theorem PB: (Zj.all fun p=>FE prog p.2)=true:=by kernel_rfl
theorem QjD:YP prog Zj ((F.tbL.drop 0).take 24)=true:=by kernel_rfl
theorem QjE:YP prog Zj ((F.tbL.drop 24).take 24)=true:=by kernel_rfl
theorem QjF:YP prog Zj ((F.tbL.drop 48).take 24)=true:=by kernel_rfl
theorem QjG:YP prog Zj ((F.tbL.drop 72).take 24)=true:=by kernel_rfl
theorem QjH:YP prog Zj ((F.tbL.drop 96).take 24)=true:=by kernel_rfl
theorem QjI:YP prog Zj ((F.tbL.drop 120).take 24)=true:=by kernel_rfl
theorem QjJ:YP prog Zj ((F.tbL.drop 144).take 24)=true:=by kernel_rfl
theorem QjK:YP prog Zj ((F.tbL.drop 168).take 24)=true:=by kernel_rfl
theorem QjL:YP prog Zj ((F.tbL.drop 192).take 24)=true:=by kernel_rfl
theorem QjM:YP prog Zj ((F.tbL.drop 216).take 24)=true:=by kernel_rfl
theorem QiH:YP prog Zj ((F.tbL.drop 240).take 24)=true:=by kernel_rfl
theorem Qg8:YP prog Zj (F.tbL.drop 264)=true:=by kernel_rfl
theorem Qg7:YP prog Zj (F.tbL.drop 240)=true:=Xc 24 QiH (by rw[List.drop_drop];exact Qg8)
theorem QiR:YP prog Zj (F.tbL.drop 216)=true:=Xc 24 QjM (by rw[List.drop_drop];exact Qg7)
theorem QiQ:YP prog Zj (F.tbL.drop 192)=true:=Xc 24 QjL (by rw[List.drop_drop];exact QiR)
theorem QiP:YP prog Zj (F.tbL.drop 168)=true:=Xc 24 QjK (by rw[List.drop_drop];exact QiQ)
theorem QiO:YP prog Zj (F.tbL.drop 144)=true:=Xc 24 QjJ (by rw[List.drop_drop];exact QiP)
theorem QiN:YP prog Zj (F.tbL.drop 120)=true:=Xc 24 QjI (by rw[List.drop_drop];exact QiO)
theorem QiM:YP prog Zj (F.tbL.drop 96)=true:=Xc 24 QjH (by rw[List.drop_drop];exact QiN)
theorem QiL:YP prog Zj (F.tbL.drop 72)=true:=Xc 24 QjG (by rw[List.drop_drop];exact QiM)
theorem QiK:YP prog Zj (F.tbL.drop 48)=true:=Xc 24 QjF (by rw[List.drop_drop];exact QiL)
theorem QiJ:YP prog Zj (F.tbL.drop 24)=true:=Xc 24 QjE (by rw[List.drop_drop];exact QiK)
theorem QiI:YP prog Zj (F.tbL.drop 0)=true:=Xc 24 QjD (by rw[List.drop_drop];exact QiJ)
theorem QjN:YP prog Zj F.tbL=true:=QiI
theorem mixed:prog.follows .mixedOrders=true:=by kernel_rfl
def tbS:List (Nat×AFn):=[(30,.code F.f30),(31,.code F.f31),(32,.code F.f32),(33,.orc (ZG OD))]
theorem Qic: ∀f,S.tb f=tbS.lookup f:=fun f=>by
 unfold S.tb tbS;by_cases h0:f=30
 ·subst h0;rfl
 by_cases h1:f=31
 ·subst h1;rfl
 by_cases h2:f=32
 ·subst h2;rfl
 by_cases h3:f=33
 ·subst h3;rfl
 have e0: (f == 30)=false:=by simpa using h0
 have e1: (f == 31)=false:=by simpa using h1
 have e2: (f == 32)=false:=by simpa using h2
 have e3: (f == 33)=false:=by simpa using h3
 rw[if_neg h0,if_neg h1,if_neg h2,if_neg h3];simp[List.lookup,e0,e1,e2,e3]
section
attribute [local instance] drT
theorem hnT: ∀k g,prog.globalNamed (PV k)=some g→k=0∧some 1=some g:=fun k g h=>by
 cases k with
 | zero=>exact⟨rfl,(show prog.globalNamed "sealring/term.words" =some 1 by kernel_rfl).symm.trans h⟩
 | succ k=>exact absurd (h.symm.trans (show prog.globalNamed "" =none by kernel_rfl)) (by simp)
theorem Qi0:N5 prog num (LI (some 1)) S.tb:=Il [33] Qic mixed PB (by kernel_rfl) (by kernel_rfl) (XD (YY S.tb_33 (show Zj.lookup 33=some 147 from rfl) (Gh fun a b w=>strings_Compare a b w)) QhL) hnT
end
theorem QjB:N4 prog num (some 1) 89:=Qcm (by kernel_rfl) Qi0
instance drF:Dr:=⟨False⟩
theorem hD: ¬Dr.d:=fun h=>h
theorem hnm: ∀k g,prog.globalNamed (PV k)=some g→(Yo prog 1 0).nm k g:=fun k g h=>by
 cases k with
 | zero=>exact⟨rfl,Option.some.inj (h.symm.trans (show prog.globalNamed "sealring/term.words" =some 1 by kernel_rfl))⟩
 | succ k=>exact absurd (h.symm.trans (show prog.globalNamed "" =none by kernel_rfl)) (by simp)
theorem GH {α:Type} {o:Option α} (h:o.isSome=true):o≠none:=fun e=>by rw[e]at h;cases h
theorem QhT:Oat prog Zj (Yo prog 1 0) F.tb 18:=YY F.tb_18 (show Zj.lookup 18=some 53 from rfl) (Qab (Γ:=Yo prog 1 0) (fun _ _ h=>h.1) fun n h0 h1 w ht=>strconv_Itoa n h0 h1 w ht)
theorem QhU:Oat prog Zj (Yo prog 1 0) F.tb 33:=YY F.tb_33 (show Zj.lookup 33=some 147 from rfl) (Gh fun a b w=>strings_Compare a b w)
theorem QhV:Oat prog Zj (Yo prog 1 0) F.tb 76:=YY F.tb_76 (show Zj.lookup 76=some 66 from rfl) (Ap (Γ:=Yo prog 1 0) (fun _ _ h=>h.1) hD (GH (by kernel_rfl)) (GH (by kernel_rfl)) (fun s hs v hv w=>(strconv_Atoi_ok s hs v hv w).mono fun e w2 h=>by obtain⟨h1,h2⟩:=h;refine⟨h1,?_⟩;rcases h2 with rfl | ⟨t,rfl⟩;exact Go.RowKit.Below.refl _ _;exact Lib.bytesWorld_below _ _ _) (fun s hs hv tp p w hvar=>(strconv_Atoi_syntax_var s hs hv tp p w hvar).mono fun e w2 h=>by obtain⟨N,h1,_,_,h4⟩:=h;exact⟨_,_,h1,h4⟩) (fun s hs hv tp p w hvar=>(strconv_Atoi_range_var s hs hv tp p w hvar).mono fun e w2 h=>by obtain⟨N,h1,_,_,h4⟩:=h;exact⟨_,_,h1,h4⟩))
theorem Qdd:Oat prog Zj (Yo prog 1 0) F.tb 164:=YY F.tb_164 (show Zj.lookup 164=some 127 from rfl) (Qa7 hD fun s c w h1 h2 h3=>Go.Proofs.Any.strings_Trim_laid lays160 (by kernel_rfl) s c w h1 h2 h3)
theorem Qde:Oat prog Zj (Yo prog 1 0) F.tb 170:=YY F.tb_170 (show Zj.lookup 170=some 119 from rfl) (Qa5 hD laysSortFunc rfl (fun w=>Z6 (by kernel_rfl)) (fun w=>Zc (by kernel_rfl)) (fun w m h g e=>by cases e;exact h.2.2) (fun g e=>by cases e;exact of_decide_eq_true (by kernel_rfl)) (Qa4 (UJ PB) (by kernel_rfl) QjB))
theorem Qdf:Oat prog Zj (Yo prog 1 0) F.tb 181:=YY F.tb_181 (show Zj.lookup 181=some 182 from rfl) (CU hD laysGrow rfl (z:= .agg #[.int .i64 0,.string ⟨#[]⟩,.int .i64 0,.slice none 0 0]) (by kernel_rfl) (by decide) (by kernel_rfl))
theorem Qdg:Oat prog Zj (Yo prog 1 0) F.tb 193:=YY F.tb_193 (show Zj.lookup 193=some 118 from rfl) (Th hnm mixed (UJ PB) func118 Vs)
theorem Qdh:Oat prog Zj (Yo prog 1 0) F.tb 194:=YY F.tb_194 (show Zj.lookup 194=some 282 from rfl) (GE hD (Wl.con func282 (by decide)))
theorem Qdi:Oat prog Zj (Yo prog 1 0) F.tb 372:=YY F.tb_372 (show Zj.lookup 372=some 297 from rfl) (Th hnm mixed (UJ PB) func297 Vr)
theorem Qdj:Oat prog Zj (Yo prog 1 0) F.tb 484:=YY F.tb_484 (show Zj.lookup 484=some 101 from rfl) (QhR hD (fun w m h=>h.2.1) fun s t m w hs hm=>stringslite_Index s t m w hs hm)
theorem Qdk:Oat prog Zj (Yo prog 1 0) F.tb 525:=YY F.tb_525 (show Zj.lookup 525=some 195 from rfl) (Th hnm mixed (UJ PB) func195 WA)
theorem Qdl:Oat prog Zj (Yo prog 1 0) F.tb 526:=YY F.tb_526 (show Zj.lookup 526=some 194 from rfl) (GE hD QhO)
theorem Qdm:Oat prog Zj (Yo prog 1 0) F.tb 557:=YY F.tb_557 (show Zj.lookup 557=some 330 from rfl) (Th hnm mixed (UJ PB) func330 W5)
theorem Qdn:Oat prog Zj (Yo prog 1 0) F.tb 636:=YY F.tb_636 (show Zj.lookup 636=some 26 from rfl) (Qco hD fun s c w=>strings_Count_one s c w)
theorem Qdo:Oat prog Zj (Yo prog 1 0) F.tb 660:=YY F.tb_660 (show Zj.lookup 660=some 54 from rfl) (Qg0 (fun b w h0=>Qci b w h0) (fun b w h0 h1 h2=>Av b w h0 h1 h2))
theorem Qdp:Oat prog Zj (Yo prog 1 0) F.tb 671:=YY F.tb_671 (show Zj.lookup 671=some 137 from rfl) (Th hnm mixed (UJ PB) func137 Sh)
theorem Qdq:Oat prog Zj (Yo prog 1 0) F.tb 745:=YY F.tb_745 (show Zj.lookup 745=some 44 from rfl) (A8 hD (fun blk off cap zs w hH hblk hsz=>slices_Sort_int blk off cap zs w hH hblk hsz) (fun p cap w=>slices_Sort_int_none p cap w))
theorem fits:N5 prog num (Yo prog 1 0) F.tb:=Il [18,33,76,164,170,181,193,194,372,484,525,526,557,636,660,671,745] (fun _=>rfl) mixed PB QjN (by kernel_rfl) (XD QhT (XD QhU (XD QhV (XD Qdd (XD Qde (XD Qdf (XD Qdg (XD Qdh (XD Qdi (XD Qdj (XD Qdk (XD Qdl (XD Qdm (XD Qdn (XD Qdo (XD Qdp (XD Qdq (QhL)))))))))))))))))) hnm
end Go.Am.Chk
