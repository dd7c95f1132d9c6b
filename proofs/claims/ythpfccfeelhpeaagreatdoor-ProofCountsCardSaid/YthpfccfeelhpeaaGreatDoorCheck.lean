/-
  AmCheck.
-/
import Derived.Test.YthpfccfeelhpeaaGreatDoorG35
import Derived.Test.YthpfccfeelhpeaaGreatDoorG13
import Derived.Test.YthpfccfeelhpeaaGreatDoorG10
import Derived.Test.YthpfccfeelhpeaaGreatDoorG36
import Derived.Test.YthpfccfeelhpeaaGreatDoorG37
import Derived.Test.YthpfccfeelhpeaaGreatDoorG14
import Derived.Test.YthpfccfeelhpeaaGreatDoorG09
import Derived.Test.YthpfccfeelhpeaaGreatDoorG38
import Derived.WalkKit
import Derived.Test.YthpfccfeelhpeaaGreatDoorShelf
import Derived.Test.YthpfccfeelhpeaaGreatDoorProg
set_option linter.all false
namespace Go.Am.Chk
open Go.Proofs.Tryz
set_option maxRecDepth 20000
def Q0:List (Nat×Nat):=[(6,109),(7,171),(8,240),(9,249),(18,58),(30,94),(31,160),(32,159),(33,161),(41,91),(42,152),(43,158),(44,232),(45,294),(46,215),(47,277),(48,254),(49,326),(54,75),(55,126),(56,190),(57,124),(58,188),(59,189),(60,122),(61,127),(63,174),(71,214),(73,83),(74,140),(75,206),(76,71),(101,21),(102,49),(153,39),(154,74),(155,123),(156,125),(159,43),(160,82),(161,139),(162,205),(163,84),(164,141),(165,92),(166,153),(167,230),(168,193),(169,195),(170,133),(171,253),(172,134),(173,93),(174,154),(175,231),(176,291),(177,155),(178,163),(179,216),(180,128),(181,191),(182,235),(183,234),(184,236),(185,296),(186,150),(187,229),(188,282),(189,224),(190,285),(191,284),(192,283),(193,132),(194,286),(195,287),(196,292),(197,222),(198,325),(199,293),(200,147),(201,223),(202,225),(203,289),(204,288),(205,322),(206,157),(207,156),(214,263),(215,313),(348,20),(349,46),(350,47),(351,48),(352,24),(353,52),(354,53),(355,55),(356,54),(357,108),(358,56),(359,95),(360,162),(361,96),(362,146),(363,148),(365,164),(366,237),(367,238),(368,297),(369,299),(370,298),(371,327),(372,301),(373,300),(375,328),(377,302),(378,319),(418,143),(483,66),(484,115),(497,134),(511,130),(512,194),(517,40),(518,76),(519,129),(520,192),(521,131),(522,196),(523,137),(524,138),(525,204),(526,203),(527,77),(528,135),(529,78),(530,79),(531,136),(532,198),(533,264),(534,199),(535,266),(536,267),(537,265),(538,314),(539,200),(540,268),(541,144),(542,217),(543,278),(544,219),(545,281),(546,319),(547,279),(548,218),(549,221),(550,280),(551,220),(552,201),(553,269),(554,270),(555,271),(556,315),(557,333),(558,334),(559,332),(560,227),(561,290),(562,323),(563,302),(564,339),(565,342),(566,340),(567,324),(568,202),(598,303),(599,54),(600,108),(608,41),(632,3),(633,6),(634,18),(635,15),(636,31),(637,64),(639,32),(640,67),(641,33),(642,68),(643,116),(644,179),(645,247),(646,34),(647,69),(648,117),(649,70),(650,118),(651,180),(652,248),(653,181),(654,182),(655,13),(656,25),(657,57),(658,110),(659,26),(660,59),(661,28),(662,27),(663,19),(664,42),(665,81),(666,80),(667,44),(668,45),(669,89),(670,90),(671,151),(672,8),(673,11),(695,10),(696,7),(697,9),(698,12),(735,172),(736,85),(737,142),(738,86),(739,87),(740,145),(741,88),(742,149),(743,226),(744,228),(745,22),(746,23)]
def num:Nat→Option Nat:=fun f=>Q0.lookup f
theorem Wj:Vm prog num true 56 4 f132=true:=by kernel_rfl
theorem Wi:Vm prog num false 24 1 f301=true:=by kernel_rfl
theorem XD:Vm prog num true 56 4 f204=true:=by kernel_rfl
theorem XW:Vm prog num true 64 5 f333=true:=by kernel_rfl
theorem UE:Vm prog num false 8 1 f151=true:=by kernel_rfl
theorem Qcc:prog.follows .mixedOrders=true:=by kernel_rfl
def Th:Go.Shelf.Ren:=⟨fun n=>match n with | 29=>320 | 30=>321 | 22=>286 | n=>n,fun n=>match n with | 24=>167 | 9=>210 | 3=>3 | 4=>4 | 0=>0 | n=>n,fun n=>n⟩
theorem Xs:WK prog Th f286 5 64 (.agg #[.int .i64 0,.string ⟨#[]⟩,.int .i64 0,.slice none 0 0,.int .i64 0]) where
 mixed:=Qcc
 body:=by kernel_rfl
 ntmps:=by kernel_rfl
 res:=by kernel_rfl
 f29:=fun args w=>run_callFunc_extern (f:=Th.f 29) (fn:=f320) func320 (by kernel_rfl) (by kernel_rfl) (by kernel_rfl) (e:=Extern.SlicesOverlaps.overlaps #[Th.t 24,Th.t 24] #[Th.t 4]) (by kernel_rfl) args w
 t0:=by kernel_rfl
 t3:=by kernel_rfl
 t4:=by kernel_rfl
 t24:=by kernel_rfl
 i9:=by kernel_rfl
 zc:=by kernel_rfl
 a3:=fun w=>ZD (by kernel_rfl)
 a4:=fun w=>ZD (by kernel_rfl)
 a24:=fun w=>ZD (by kernel_rfl)
 z3:=fun w=>QV (by kernel_rfl)
 z4:=fun w=>QV (by kernel_rfl)
 z9:=fun w=>QV (by kernel_rfl)
 z24:=fun w=>QV (by kernel_rfl)
theorem SE: (Q0.all fun p=>Jm prog p.2)=true:=by kernel_rfl
theorem QdK:Yu prog Q0 ((F.tbL.drop 0).take 24)=true:=by kernel_rfl
theorem QdL:Yu prog Q0 ((F.tbL.drop 24).take 24)=true:=by kernel_rfl
theorem QdM:Yu prog Q0 ((F.tbL.drop 48).take 24)=true:=by kernel_rfl
theorem QdN:Yu prog Q0 ((F.tbL.drop 72).take 24)=true:=by kernel_rfl
theorem QdO:Yu prog Q0 ((F.tbL.drop 96).take 24)=true:=by kernel_rfl
theorem QdP:Yu prog Q0 ((F.tbL.drop 120).take 24)=true:=by kernel_rfl
theorem QdQ:Yu prog Q0 ((F.tbL.drop 144).take 24)=true:=by kernel_rfl
theorem QdR:Yu prog Q0 ((F.tbL.drop 168).take 24)=true:=by kernel_rfl
theorem QdS:Yu prog Q0 ((F.tbL.drop 192).take 24)=true:=by kernel_rfl
theorem QdT:Yu prog Q0 ((F.tbL.drop 216).take 24)=true:=by kernel_rfl
theorem Qbr:Yu prog Q0 (F.tbL.drop 240)=true:=by kernel_rfl
theorem Qc1:Yu prog Q0 (F.tbL.drop 216)=true:=YS 24 QdT (by rw[List.drop_drop];exact Qbr)
theorem Qc0:Yu prog Q0 (F.tbL.drop 192)=true:=YS 24 QdS (by rw[List.drop_drop];exact Qc1)
theorem QcZ:Yu prog Q0 (F.tbL.drop 168)=true:=YS 24 QdR (by rw[List.drop_drop];exact Qc0)
theorem QcY:Yu prog Q0 (F.tbL.drop 144)=true:=YS 24 QdQ (by rw[List.drop_drop];exact QcZ)
theorem QcX:Yu prog Q0 (F.tbL.drop 120)=true:=YS 24 QdP (by rw[List.drop_drop];exact QcY)
theorem QcW:Yu prog Q0 (F.tbL.drop 96)=true:=YS 24 QdO (by rw[List.drop_drop];exact QcX)
theorem QcV:Yu prog Q0 (F.tbL.drop 72)=true:=YS 24 QdN (by rw[List.drop_drop];exact QcW)
theorem QcU:Yu prog Q0 (F.tbL.drop 48)=true:=YS 24 QdM (by rw[List.drop_drop];exact QcV)
theorem QcT:Yu prog Q0 (F.tbL.drop 24)=true:=YS 24 QdL (by rw[List.drop_drop];exact QcU)
theorem QcS:Yu prog Q0 (F.tbL.drop 0)=true:=YS 24 QdK (by rw[List.drop_drop];exact QcT)
theorem QdU:Yu prog Q0 F.tbL=true:=QcS
theorem mixed:prog.follows .mixedOrders=true:=by kernel_rfl
def tbS:List (Nat×AFn):=[(30,.code F.f30),(31,.code F.f31),(32,.code F.f32),(33,.orc (Zw Ry))]
theorem Qco: ∀f,S.tb f=tbS.lookup f:=fun f=>by
 unfold S.tb tbS;by_cases h0:f=30
 ·subst h0;rfl
 by_cases h1:f=31
 ·subst h1;rfl
 by_cases h2:f=32
 ·subst h2;rfl
 by_cases h3:f=33
 ·subst h3;rfl
 have e0: (f == 30)=false:=by simpa using h0
 have e1: (f == 31)=false:=by simpa using h1
 have e2: (f == 32)=false:=by simpa using h2
 have e3: (f == 33)=false:=by simpa using h3
 rw[if_neg h0,if_neg h1,if_neg h2,if_neg h3];simp[List.lookup,e0,e1,e2,e3]
section
attribute [local instance] drT
theorem hnT: ∀k g,prog.globalNamed (S1 k)=some g→k=0∧some 1=some g:=fun k g h=>by
 cases k with
 | zero=>exact⟨rfl,(show prog.globalNamed "sealring/term.words" =some 1 by kernel_rfl).symm.trans h⟩
 | succ k=>exact absurd (h.symm.trans (show prog.globalNamed "" =none by kernel_rfl)) (by simp)
theorem Qc9:Pz prog num (ON (some 1)) S.tb:=M4 [33] Qco mixed SE (by kernel_rfl) (by kernel_rfl) (Y3 (Yq S.tb_33 (show Q0.lookup 33=some 161 from rfl) (Kp fun a b w=>strings_Compare a b w)) Qb6) hnT
end
theorem QdI:Py prog num (some 1) 94:=DG (by kernel_rfl) Qc9
instance drF:Dr:=⟨False⟩
theorem hD: ¬Dr.d:=fun h=>h
theorem hnm: ∀k g,prog.globalNamed (S1 k)=some g→(ZW prog 1 0).nm k g:=fun k g h=>by
 cases k with
 | zero=>exact⟨rfl,Option.some.inj (h.symm.trans (show prog.globalNamed "sealring/term.words" =some 1 by kernel_rfl))⟩
 | succ k=>exact absurd (h.symm.trans (show prog.globalNamed "" =none by kernel_rfl)) (by simp)
theorem KF {α:Type} {o:Option α} (h:o.isSome=true):o≠none:=fun e=>by rw[e]at h;cases h
theorem Qcd:Oat prog Q0 (ZW prog 1 0) F.tb 18:=Yq F.tb_18 (show Q0.lookup 18=some 58 from rfl) (F7 (Γ:=ZW prog 1 0) (fun _ _ h=>h.1) fun n h0 h1 w ht=>strconv_Itoa n h0 h1 w ht)
theorem Qce:Oat prog Q0 (ZW prog 1 0) F.tb 33:=Yq F.tb_33 (show Q0.lookup 33=some 161 from rfl) (Kp fun a b w=>strings_Compare a b w)
theorem Qcf:Oat prog Q0 (ZW prog 1 0) F.tb 76:=Yq F.tb_76 (show Q0.lookup 76=some 71 from rfl) (Fw (Γ:=ZW prog 1 0) (fun _ _ h=>h.1) hD (KF (by kernel_rfl)) (KF (by kernel_rfl)) (fun s hs v hv w=>(strconv_Atoi_ok s hs v hv w).mono fun e w2 h=>by obtain⟨h1,h2⟩:=h;refine⟨h1,?_⟩;rcases h2 with rfl | ⟨t,rfl⟩;exact Go.RowKit.Below.refl _ _;exact Lib.bytesWorld_below _ _ _) (fun s hs hv tp p w hvar=>(strconv_Atoi_syntax_var s hs hv tp p w hvar).mono fun e w2 h=>by obtain⟨N,h1,_,_,h4⟩:=h;exact⟨_,_,h1,h4⟩) (fun s hs hv tp p w hvar=>(strconv_Atoi_range_var s hs hv tp p w hvar).mono fun e w2 h=>by obtain⟨N,h1,_,_,h4⟩:=h;exact⟨_,_,h1,h4⟩))
theorem Cr:Oat prog Q0 (ZW prog 1 0) F.tb 164:=Yq F.tb_164 (show Q0.lookup 164=some 141 from rfl) (EU hD fun s c w h1 h2 h3=>Go.Proofs.Any.strings_Trim_laid lays160 (by kernel_rfl) s c w h1 h2 h3)
theorem Cs:Oat prog Q0 (ZW prog 1 0) F.tb 170:=Yq F.tb_170 (show Q0.lookup 170=some 133 from rfl) (EQ hD laysSortFunc rfl (fun w=>ZD (by kernel_rfl)) (fun w=>QV (by kernel_rfl)) (fun w m h g e=>by cases e;exact h.2.2) (fun g e=>by cases e;exact of_decide_eq_true (by kernel_rfl)) (EP (Vi SE) (by kernel_rfl) QdI))
theorem Ct:Oat prog Q0 (ZW prog 1 0) F.tb 181:=Yq F.tb_181 (show Q0.lookup 181=some 191 from rfl) (Gt hD laysGrow rfl (z:= .agg #[.int .i64 0,.string ⟨#[]⟩,.int .i64 0,.slice none 0 0]) (by kernel_rfl) (by decide) (by kernel_rfl))
theorem Cu:Oat prog Q0 (ZW prog 1 0) F.tb 193:=Yq F.tb_193 (show Q0.lookup 193=some 132 from rfl) (VM hnm mixed (Vi SE) func132 Wj)
theorem Cv:Oat prog Q0 (ZW prog 1 0) F.tb 194:=Yq F.tb_194 (show Q0.lookup 194=some 286 from rfl) (KB hD (Xs.con func286 (by decide)))
theorem Cw:Oat prog Q0 (ZW prog 1 0) F.tb 372:=Yq F.tb_372 (show Q0.lookup 372=some 301 from rfl) (VM hnm mixed (Vi SE) func301 Wi)
theorem Cx:Oat prog Q0 (ZW prog 1 0) F.tb 484:=Yq F.tb_484 (show Q0.lookup 484=some 115 from rfl) (Qcb hD (fun w m h=>h.2.1) fun s t m w hs hm=>stringslite_Index s t m w hs hm)
theorem Cy:Oat prog Q0 (ZW prog 1 0) F.tb 525:=Yq F.tb_525 (show Q0.lookup 525=some 204 from rfl) (VM hnm mixed (Vi SE) func204 XD)
theorem Cz:Oat prog Q0 (ZW prog 1 0) F.tb 526:=Yq F.tb_526 (show Q0.lookup 526=some 203 from rfl) (KB hD Qb9)
theorem CA:Oat prog Q0 (ZW prog 1 0) F.tb 557:=Yq F.tb_557 (show Q0.lookup 557=some 333 from rfl) (VM hnm mixed (Vi SE) func333 XW)
theorem CB:Oat prog Q0 (ZW prog 1 0) F.tb 636:=Yq F.tb_636 (show Q0.lookup 636=some 31 from rfl) (DL hD fun s c w=>strings_Count_one s c w)
theorem CC:Oat prog Q0 (ZW prog 1 0) F.tb 660:=Yq F.tb_660 (show Q0.lookup 660=some 59 from rfl) (Qbk (fun b w h0=>DC b w h0) (fun b w h0 h1 h2=>FC b w h0 h1 h2))
theorem CD:Oat prog Q0 (ZW prog 1 0) F.tb 671:=Yq F.tb_671 (show Q0.lookup 671=some 151 from rfl) (VM hnm mixed (Vi SE) func151 UE)
theorem CE:Oat prog Q0 (ZW prog 1 0) F.tb 745:=Yq F.tb_745 (show Q0.lookup 745=some 22 from rfl) (F4 hD (fun blk off cap zs w hH hblk hsz=>slices_Sort_int blk off cap zs w hH hblk hsz) (fun p cap w=>slices_Sort_int_none p cap w))
theorem fits:Pz prog num (ZW prog 1 0) F.tb:=M4 [18,33,76,164,170,181,193,194,372,484,525,526,557,636,660,671,745] (fun _=>rfl) mixed SE QdU (by kernel_rfl) (Y3 Qcd (Y3 Qce (Y3 Qcf (Y3 Cr (Y3 Cs (Y3 Ct (Y3 Cu (Y3 Cv (Y3 Cw (Y3 Cx (Y3 Cy (Y3 Cz (Y3 CA (Y3 CB (Y3 CC (Y3 CD (Y3 CE (Qb6)))))))))))))))))) hnm
end Go.Am.Chk
