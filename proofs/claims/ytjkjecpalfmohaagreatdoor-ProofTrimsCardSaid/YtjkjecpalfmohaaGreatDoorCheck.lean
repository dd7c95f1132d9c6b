/-
  AmCheck.
-/
import Derived.Test.YtjkjecpalfmohaaGreatDoorG43
import Derived.Test.YtjkjecpalfmohaaGreatDoorG13
import Derived.Test.YtjkjecpalfmohaaGreatDoorG10
import Derived.Test.YtjkjecpalfmohaaGreatDoorG44
import Derived.Test.YtjkjecpalfmohaaGreatDoorG45
import Derived.Test.YtjkjecpalfmohaaGreatDoorG14
import Derived.Test.YtjkjecpalfmohaaGreatDoorG09
import Derived.Test.YtjkjecpalfmohaaGreatDoorG46
import Derived.WalkKit
import Derived.Test.YtjkjecpalfmohaaGreatDoorShelf
import Derived.Test.YtjkjecpalfmohaaGreatDoorProg
set_option linter.all false
namespace Go.Am.Chk
open Go.Proofs.Tryz
set_option maxRecDepth 20000
def ZM:List (Nat×Nat):=[(6,116),(7,200),(8,284),(9,312),(18,154),(30,66),(31,125),(32,124),(33,126),(41,63),(42,117),(43,123),(44,205),(45,290),(46,260),(47,339),(48,286),(49,349),(54,76),(55,145),(56,225),(57,143),(58,222),(59,223),(60,103),(61,146),(63,224),(71,259),(73,94),(74,164),(75,251),(76,84),(89,24),(90,52),(91,102),(101,18),(102,49),(120,61),(126,53),(127,104),(128,108),(129,186),(130,182),(131,183),(132,110),(153,37),(154,75),(155,142),(156,144),(159,45),(160,93),(161,163),(162,250),(163,95),(164,165),(165,64),(166,118),(167,202),(168,201),(169,203),(170,157),(171,285),(172,158),(173,65),(174,119),(175,204),(176,287),(177,120),(178,131),(179,207),(180,137),(181,218),(182,209),(183,208),(184,210),(185,292),(186,136),(187,217),(188,293),(189,213),(190,296),(191,295),(192,294),(193,156),(194,297),(195,298),(196,288),(197,211),(198,348),(199,289),(200,133),(201,212),(202,214),(203,300),(204,299),(205,352),(206,122),(207,121),(214,73),(215,141),(231,58),(232,109),(233,27),(234,54),(235,105),(236,184),(237,107),(238,275),(239,282),(240,55),(241,106),(242,185),(243,276),(244,111),(245,188),(246,187),(247,190),(248,189),(249,279),(250,347),(251,191),(252,277),(253,113),(254,192),(255,280),(256,193),(257,281),(258,346),(259,194),(260,372),(261,278),(262,198),(263,283),(318,197),(319,199),(324,195),(326,196),(337,60),(340,115),(344,8),(345,25),(346,26),(348,10),(349,30),(350,31),(351,32),(352,67),(353,68),(354,127),(355,128),(356,20),(357,50),(358,129),(359,69),(360,130),(361,70),(362,132),(363,134),(365,135),(366,215),(367,216),(368,301),(369,303),(370,302),(371,353),(372,305),(373,304),(375,354),(377,306),(378,355),(384,9),(385,28),(386,56),(387,57),(388,29),(389,59),(390,62),(391,112),(392,114),(418,167),(483,79),(484,147),(497,158),(511,139),(512,220),(517,43),(518,71),(519,138),(520,219),(521,140),(522,221),(523,161),(524,162),(525,249),(526,248),(527,89),(528,159),(529,90),(530,91),(531,160),(532,243),(533,326),(534,244),(535,328),(536,329),(537,327),(538,365),(539,245),(540,330),(541,168),(542,261),(543,340),(544,263),(545,343),(546,355),(547,341),(548,262),(549,265),(550,342),(551,264),(552,246),(553,331),(554,332),(555,333),(556,366),(557,380),(558,381),(559,379),(560,267),(561,344),(562,370),(563,306),(564,385),(565,390),(566,386),(567,371),(568,247),(598,307),(599,20),(600,50),(608,33),(633,4),(634,12),(635,13),(636,38),(637,77),(639,39),(640,80),(641,40),(642,81),(643,148),(644,230),(645,310),(646,41),(647,82),(648,149),(649,83),(650,150),(651,231),(652,311),(653,232),(654,233),(655,42),(656,85),(657,153),(658,239),(659,86),(660,155),(661,88),(662,87),(663,14),(664,44),(665,92),(666,72),(667,46),(668,6),(669,21),(670,22),(671,51),(672,15),(673,17),(695,16),(696,19),(700,5),(702,11),(703,35),(704,36),(705,74),(706,34),(708,3),(709,7),(710,23),(735,316),(736,96),(737,166),(738,97),(739,98),(740,169),(741,99),(742,170),(743,266),(744,268),(745,47),(746,48)]
def num:Nat→Option Nat:=fun f=>ZM.lookup f
theorem TJ:Rr prog num true 56 4 f156=true:=by kernel_rfl
theorem TI:Rr prog num false 24 1 f305=true:=by kernel_rfl
theorem UQ:Rr prog num true 56 4 f249=true:=by kernel_rfl
theorem Te:Rr prog num true 64 5 f380=true:=by kernel_rfl
theorem Oz:Rr prog num false 8 1 f51=true:=by kernel_rfl
theorem Qpx:prog.follows .mixedOrders=true:=by kernel_rfl
def NF:Go.Shelf.Ren:=⟨fun n=>match n with | 29=>350 | 30=>351 | 22=>297 | n=>n,fun n=>match n with | 24=>133 | 9=>209 | 3=>3 | 4=>4 | 0=>0 | n=>n,fun n=>n⟩
theorem Uz:SA prog NF f297 5 64 (.agg #[.int .i64 0,.string ⟨#[]⟩,.int .i64 0,.slice none 0 0,.int .i64 0]) where
 mixed:=Qpx
 body:=by kernel_rfl
 ntmps:=by kernel_rfl
 res:=by kernel_rfl
 f29:=fun args w=>run_callFunc_extern (f:=NF.f 29) (fn:=f350) func350 (by kernel_rfl) (by kernel_rfl) (by kernel_rfl) (e:=Extern.SlicesOverlaps.overlaps #[NF.t 24,NF.t 24] #[NF.t 4]) (by kernel_rfl) args w
 t0:=by kernel_rfl
 t3:=by kernel_rfl
 t4:=by kernel_rfl
 t24:=by kernel_rfl
 i9:=by kernel_rfl
 zc:=by kernel_rfl
 a3:=fun w=>Y9 (by kernel_rfl)
 a4:=fun w=>Y9 (by kernel_rfl)
 a24:=fun w=>Y9 (by kernel_rfl)
 z3:=fun w=>ZS (by kernel_rfl)
 z4:=fun w=>ZS (by kernel_rfl)
 z9:=fun w=>ZS (by kernel_rfl)
 z24:=fun w=>ZS (by kernel_rfl)
theorem LG: (ZM.all fun p=>Qa8 prog p.2)=true:=by kernel_rfl
theorem QrO:XI prog ZM ((F.tbL.drop 0).take 24)=true:=by kernel_rfl
theorem QrP:XI prog ZM ((F.tbL.drop 24).take 24)=true:=by kernel_rfl
theorem QrQ:XI prog ZM ((F.tbL.drop 48).take 24)=true:=by kernel_rfl
theorem QrR:XI prog ZM ((F.tbL.drop 72).take 24)=true:=by kernel_rfl
theorem QrS:XI prog ZM ((F.tbL.drop 96).take 24)=true:=by kernel_rfl
theorem QrT:XI prog ZM ((F.tbL.drop 120).take 24)=true:=by kernel_rfl
theorem QrU:XI prog ZM ((F.tbL.drop 144).take 24)=true:=by kernel_rfl
theorem QrV:XI prog ZM ((F.tbL.drop 168).take 24)=true:=by kernel_rfl
theorem QrW:XI prog ZM ((F.tbL.drop 192).take 24)=true:=by kernel_rfl
theorem QrX:XI prog ZM ((F.tbL.drop 216).take 24)=true:=by kernel_rfl
theorem Qqw:XI prog ZM ((F.tbL.drop 240).take 24)=true:=by kernel_rfl
theorem Qqx:XI prog ZM ((F.tbL.drop 264).take 24)=true:=by kernel_rfl
theorem Qqy:XI prog ZM ((F.tbL.drop 288).take 24)=true:=by kernel_rfl
theorem QoK:XI prog ZM (F.tbL.drop 312)=true:=by kernel_rfl
theorem QoJ:XI prog ZM (F.tbL.drop 288)=true:=X8 24 Qqy (by rw[List.drop_drop];exact QoK)
theorem QoI:XI prog ZM (F.tbL.drop 264)=true:=X8 24 Qqx (by rw[List.drop_drop];exact QoJ)
theorem QoH:XI prog ZM (F.tbL.drop 240)=true:=X8 24 Qqw (by rw[List.drop_drop];exact QoI)
theorem QqI:XI prog ZM (F.tbL.drop 216)=true:=X8 24 QrX (by rw[List.drop_drop];exact QoH)
theorem QqH:XI prog ZM (F.tbL.drop 192)=true:=X8 24 QrW (by rw[List.drop_drop];exact QqI)
theorem QqG:XI prog ZM (F.tbL.drop 168)=true:=X8 24 QrV (by rw[List.drop_drop];exact QqH)
theorem QqF:XI prog ZM (F.tbL.drop 144)=true:=X8 24 QrU (by rw[List.drop_drop];exact QqG)
theorem QqE:XI prog ZM (F.tbL.drop 120)=true:=X8 24 QrT (by rw[List.drop_drop];exact QqF)
theorem QqD:XI prog ZM (F.tbL.drop 96)=true:=X8 24 QrS (by rw[List.drop_drop];exact QqE)
theorem QqC:XI prog ZM (F.tbL.drop 72)=true:=X8 24 QrR (by rw[List.drop_drop];exact QqD)
theorem QqB:XI prog ZM (F.tbL.drop 48)=true:=X8 24 QrQ (by rw[List.drop_drop];exact QqC)
theorem QqA:XI prog ZM (F.tbL.drop 24)=true:=X8 24 QrP (by rw[List.drop_drop];exact QqB)
theorem Qqz:XI prog ZM (F.tbL.drop 0)=true:=X8 24 QrO (by rw[List.drop_drop];exact QqA)
theorem QrY:XI prog ZM F.tbL=true:=Qqz
theorem mixed:prog.follows .mixedOrders=true:=by kernel_rfl
def tbS:List (Nat×AFn):=[(30,.code F.f30),(31,.code F.f31),(32,.code F.f32),(33,.orc (YS KY))]
theorem QpS: ∀f,S.tb f=tbS.lookup f:=fun f=>by
 unfold S.tb tbS;by_cases h0:f=30
 ·subst h0;rfl
 by_cases h1:f=31
 ·subst h1;rfl
 by_cases h2:f=32
 ·subst h2;rfl
 by_cases h3:f=33
 ·subst h3;rfl
 have e0: (f == 30)=false:=by simpa using h0
 have e1: (f == 31)=false:=by simpa using h1
 have e2: (f == 32)=false:=by simpa using h2
 have e3: (f == 33)=false:=by simpa using h3
 rw[if_neg h0,if_neg h1,if_neg h2,if_neg h3];simp[List.lookup,e0,e1,e2,e3]
section
attribute [local instance] drT
theorem hnT: ∀k g,prog.globalNamed (L6 k)=some g→k=0∧some 1=some g:=fun k g h=>by
 cases k with
 | zero=>exact⟨rfl,(show prog.globalNamed "sealring/term.words" =some 1 by kernel_rfl).symm.trans h⟩
 | succ k=>exact absurd (h.symm.trans (show prog.globalNamed "" =none by kernel_rfl)) (by simp)
theorem QqV:IW prog num (GM (some 1)) S.tb:=DQ [33] QpS mixed LG (by kernel_rfl) (by kernel_rfl) (VJ (WG S.tb_33 (show ZM.lookup 33=some 126 from rfl) (Ap fun a b w=>strings_Compare a b w)) Qpo) hnT
end
theorem QrN:IU prog num (some 1) 66:=QjQ (by kernel_rfl) QqV
instance drF:Dr:=⟨False⟩
theorem hD: ¬Dr.d:=fun h=>h
theorem hnm: ∀k g,prog.globalNamed (L6 k)=some g→(XQ prog 1 0).nm k g:=fun k g h=>by
 cases k with
 | zero=>exact⟨rfl,Option.some.inj (h.symm.trans (show prog.globalNamed "sealring/term.words" =some 1 by kernel_rfl))⟩
 | succ k=>exact absurd (h.symm.trans (show prog.globalNamed "" =none by kernel_rfl)) (by simp)
theorem A4 {α:Type} {o:Option α} (h:o.isSome=true):o≠none:=fun e=>by rw[e]at h;cases h
theorem QpA:Oat prog ZM (XQ prog 1 0) F.tb 18:=WG F.tb_18 (show ZM.lookup 18=some 154 from rfl) (QgV (Γ:=XQ prog 1 0) (fun _ _ h=>h.1) fun n h0 h1 w ht=>strconv_Itoa n h0 h1 w ht)
theorem QpB:Oat prog ZM (XQ prog 1 0) F.tb 33:=WG F.tb_33 (show ZM.lookup 33=some 126 from rfl) (Ap fun a b w=>strings_Compare a b w)
theorem QpC:Oat prog ZM (XQ prog 1 0) F.tb 76:=WG F.tb_76 (show ZM.lookup 76=some 84 from rfl) (Qf2 (Γ:=XQ prog 1 0) (fun _ _ h=>h.1) hD (A4 (by kernel_rfl)) (A4 (by kernel_rfl)) (fun s hs v hv w=>(strconv_Atoi_ok s hs v hv w).mono fun e w2 h=>by obtain⟨h1,h2⟩:=h;refine⟨h1,?_⟩;rcases h2 with rfl | ⟨t,rfl⟩;exact Go.RowKit.Below.refl _ _;exact Lib.bytesWorld_below _ _ _) (fun s hs hv tp p w hvar=>(strconv_Atoi_syntax_var s hs hv tp p w hvar).mono fun e w2 h=>by obtain⟨N,h1,_,_,h4⟩:=h;exact⟨_,_,h1,h4⟩) (fun s hs hv tp p w hvar=>(strconv_Atoi_range_var s hs hv tp p w hvar).mono fun e w2 h=>by obtain⟨N,h1,_,_,h4⟩:=h;exact⟨_,_,h1,h4⟩))
theorem QkM:Oat prog ZM (XQ prog 1 0) F.tb 164:=WG F.tb_164 (show ZM.lookup 164=some 165 from rfl) (QhR hD fun s c w h1 h2 h3=>Go.Proofs.Any.strings_Trim_laid lays160 (by kernel_rfl) s c w h1 h2 h3)
theorem QkN:Oat prog ZM (XQ prog 1 0) F.tb 170:=WG F.tb_170 (show ZM.lookup 170=some 157 from rfl) (QhJ hD laysSortFunc rfl (fun w=>Y9 (by kernel_rfl)) (fun w=>ZS (by kernel_rfl)) (fun w m h g e=>by cases e;exact h.2.2) (fun g e=>by cases e;exact of_decide_eq_true (by kernel_rfl)) (QhI (Rk LG) (by kernel_rfl) QrN))
theorem QkO:Oat prog ZM (XQ prog 1 0) F.tb 181:=WG F.tb_181 (show ZM.lookup 181=some 218 from rfl) (Qew hD laysGrow rfl (z:= .agg #[.int .i64 0,.string ⟨#[]⟩,.int .i64 0,.slice none 0 0]) (by kernel_rfl) (by decide) (by kernel_rfl))
theorem QkP:Oat prog ZM (XQ prog 1 0) F.tb 193:=WG F.tb_193 (show ZM.lookup 193=some 156 from rfl) (RX hnm mixed (Rk LG) func156 TJ)
theorem QkQ:Oat prog ZM (XQ prog 1 0) F.tb 194:=WG F.tb_194 (show ZM.lookup 194=some 297 from rfl) (AR hD (Uz.con func297 (by decide)))
theorem QkR:Oat prog ZM (XQ prog 1 0) F.tb 372:=WG F.tb_372 (show ZM.lookup 372=some 305 from rfl) (RX hnm mixed (Rk LG) func305 TI)
theorem QkS:Oat prog ZM (XQ prog 1 0) F.tb 484:=WG F.tb_484 (show ZM.lookup 484=some 147 from rfl) (Qpu hD (fun w m h=>h.2.1) fun s t m w hs hm=>stringslite_Index s t m w hs hm)
theorem QkT:Oat prog ZM (XQ prog 1 0) F.tb 525:=WG F.tb_525 (show ZM.lookup 525=some 249 from rfl) (RX hnm mixed (Rk LG) func249 UQ)
theorem QkU:Oat prog ZM (XQ prog 1 0) F.tb 526:=WG F.tb_526 (show ZM.lookup 526=some 248 from rfl) (AR hD Qpq)
theorem QkV:Oat prog ZM (XQ prog 1 0) F.tb 557:=WG F.tb_557 (show ZM.lookup 557=some 380 from rfl) (RX hnm mixed (Rk LG) func380 Te)
theorem QkW:Oat prog ZM (XQ prog 1 0) F.tb 636:=WG F.tb_636 (show ZM.lookup 636=some 38 from rfl) (QjS hD fun s c w=>strings_Count_one s c w)
theorem QkX:Oat prog ZM (XQ prog 1 0) F.tb 660:=WG F.tb_660 (show ZM.lookup 660=some 155 from rfl) (QoC (fun b w h0=>QjO b w h0) (fun b w h0 h1 h2=>Qge b w h0 h1 h2))
theorem QkY:Oat prog ZM (XQ prog 1 0) F.tb 671:=WG F.tb_671 (show ZM.lookup 671=some 51 from rfl) (RX hnm mixed (Rk LG) func51 Oz)
theorem QkZ:Oat prog ZM (XQ prog 1 0) F.tb 745:=WG F.tb_745 (show ZM.lookup 745=some 47 from rfl) (QgS hD (fun blk off cap zs w hH hblk hsz=>slices_Sort_int blk off cap zs w hH hblk hsz) (fun p cap w=>slices_Sort_int_none p cap w))
theorem fits:IW prog num (XQ prog 1 0) F.tb:=DQ [18,33,76,164,170,181,193,194,372,484,525,526,557,636,660,671,745] (fun _=>rfl) mixed LG QrY (by kernel_rfl) (VJ QpA (VJ QpB (VJ QpC (VJ QkM (VJ QkN (VJ QkO (VJ QkP (VJ QkQ (VJ QkR (VJ QkS (VJ QkT (VJ QkU (VJ QkV (VJ QkW (VJ QkX (VJ QkY (VJ QkZ (Qpo)))))))))))))))))) hnm
end Go.Am.Chk
