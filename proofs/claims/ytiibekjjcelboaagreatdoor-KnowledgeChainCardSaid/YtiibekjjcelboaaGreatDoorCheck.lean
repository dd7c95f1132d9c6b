/-
  AmCheck.
-/
import Derived.Test.YtiibekjjcelboaaGreatDoorG41
import Derived.Test.YtiibekjjcelboaaGreatDoorG13
import Derived.Test.YtiibekjjcelboaaGreatDoorG09
import Derived.Test.YtiibekjjcelboaaGreatDoorG42
import Derived.WalkKit
import Derived.Test.YtiibekjjcelboaaGreatDoorShelf
import Derived.Test.YtiibekjjcelboaaGreatDoorProg
set_option linter.unusedVariables false
set_option linter.unusedSimpArgs false
namespace Go.Am.Chk
open Go.Proofs.Tryz
set_option maxRecDepth 20000
def ZK:List (Nat×Nat):=[(6,106),(7,153),(8,186),(9,218),(30,42),(31,72),(32,71),(33,73),(41,80),(42,133),(43,151),(44,185),(45,217),(46,82),(47,134),(48,104),(49,230),(54,33),(55,57),(56,100),(57,86),(58,136),(59,137),(60,58),(61,59),(63,138),(71,81),(73,119),(74,162),(75,193),(89,29),(90,51),(91,88),(107,36),(112,15),(120,30),(126,31),(127,52),(128,35),(129,60),(130,89),(131,90),(132,91),(153,28),(154,50),(155,85),(156,87),(159,74),(160,67),(161,105),(162,152),(163,120),(164,163),(165,101),(166,146),(167,183),(168,63),(169,65),(170,41),(171,103),(172,43),(173,102),(174,147),(175,184),(176,213),(177,148),(178,214),(179,166),(180,37),(181,61),(182,168),(183,202),(184,167),(185,201),(186,68),(187,107),(188,154),(189,155),(190,188),(191,187),(192,190),(193,9),(194,189),(195,191),(196,215),(197,174),(198,229),(199,216),(200,130),(201,175),(202,176),(203,208),(204,207),(205,226),(206,150),(207,149),(214,121),(215,164),(237,34),(239,181),(240,18),(241,17),(242,32),(243,53),(244,54),(245,93),(246,92),(247,95),(248,94),(249,139),(250,180),(251,96),(252,55),(253,97),(254,140),(255,182),(256,141),(257,144),(258,98),(259,142),(260,143),(261,56),(262,99),(263,145),(281,6),(282,7),(283,16),(284,19),(363,131),(372,236),(373,235),(375,245),(378,225),(407,9),(418,47),(497,43),(511,39),(512,64),(517,8),(518,20),(519,38),(520,62),(521,40),(522,66),(523,27),(524,46),(525,49),(526,48),(527,21),(528,44),(529,22),(530,23),(531,45),(532,75),(533,122),(534,76),(535,124),(536,125),(537,123),(538,165),(539,77),(540,126),(541,127),(542,169),(543,203),(544,171),(545,206),(546,225),(547,204),(548,170),(549,173),(550,205),(551,172),(552,78),(553,128),(554,129),(555,132),(556,177),(557,210),(558,211),(559,209),(560,178),(561,212),(562,227),(563,237),(564,238),(565,246),(566,239),(567,228),(568,79),(602,4),(603,12),(604,14),(605,13),(606,26),(620,5),(624,10),(628,11),(629,25),(727,24),(732,3)]
def num:Nat→Option Nat:=fun f=>ZK.lookup f
theorem W5:Ur prog num true 56 4 f9=true:=by kernel_rfl
theorem W4:Ur prog num false 24 1 f236=true:=by kernel_rfl
theorem Vd:Ur prog num false 56 4 f9=true:=by kernel_rfl
theorem Ws:Ur prog num true 56 4 f49=true:=by kernel_rfl
theorem WK:Ur prog num true 64 5 f210=true:=by kernel_rfl
theorem QgD:prog.follows .mixedOrders=true:=by kernel_rfl
def Rk:Go.Shelf.Ren:=⟨fun n=>match n with | 29=>219 | 30=>220 | 22=>189 | n=>n,fun n=>match n with | 24=>89 | 9=>93 | 3=>3 | 4=>4 | 0=>0 | n=>n,fun n=>n⟩
theorem Wf:VN prog Rk f189 5 64 (.agg #[.int .i64 0,.string ⟨#[]⟩,.int .i64 0,.slice none 0 0,.int .i64 0]) where
 mixed:=QgD
 body:=by kernel_rfl
 ntmps:=by kernel_rfl
 res:=by kernel_rfl
 f29:=fun args w=>run_callFunc_extern (f:=Rk.f 29) (fn:=f219) func219 (by kernel_rfl) (by kernel_rfl) (by kernel_rfl) (e:=Extern.SlicesOverlaps.overlaps #[Rk.t 24,Rk.t 24] #[Rk.t 4]) (by kernel_rfl) args w
 t0:=by kernel_rfl
 t3:=by kernel_rfl
 t4:=by kernel_rfl
 t24:=by kernel_rfl
 i9:=by kernel_rfl
 zc:=by kernel_rfl
 a3:=fun w=>Z6 (by kernel_rfl)
 a4:=fun w=>Z6 (by kernel_rfl)
 a24:=fun w=>Z6 (by kernel_rfl)
 z3:=fun w=>Za (by kernel_rfl)
 z4:=fun w=>Za (by kernel_rfl)
 z9:=fun w=>Za (by kernel_rfl)
 z24:=fun w=>Za (by kernel_rfl)
theorem PJ: (ZK.all fun p=>FJ prog p.2)=true:=by kernel_rfl
theorem Qia:Xk prog ZK ((F.tbL.drop 0).take 24)=true:=by kernel_rfl
theorem Qib:Xk prog ZK ((F.tbL.drop 24).take 24)=true:=by kernel_rfl
theorem Qic:Xk prog ZK ((F.tbL.drop 48).take 24)=true:=by kernel_rfl
theorem Qid:Xk prog ZK ((F.tbL.drop 72).take 24)=true:=by kernel_rfl
theorem Qie:Xk prog ZK ((F.tbL.drop 96).take 24)=true:=by kernel_rfl
theorem Qif:Xk prog ZK ((F.tbL.drop 120).take 24)=true:=by kernel_rfl
theorem Qig:Xk prog ZK ((F.tbL.drop 144).take 24)=true:=by kernel_rfl
theorem Qih:Xk prog ZK ((F.tbL.drop 168).take 24)=true:=by kernel_rfl
theorem Qii:Xk prog ZK ((F.tbL.drop 192).take 24)=true:=by kernel_rfl
theorem Qhw:Xk prog ZK (F.tbL.drop 216)=true:=by kernel_rfl
theorem Qhv:Xk prog ZK (F.tbL.drop 192)=true:=XS 24 Qii (by rw[List.drop_drop];exact Qhw)
theorem Qhu:Xk prog ZK (F.tbL.drop 168)=true:=XS 24 Qih (by rw[List.drop_drop];exact Qhv)
theorem Qht:Xk prog ZK (F.tbL.drop 144)=true:=XS 24 Qig (by rw[List.drop_drop];exact Qhu)
theorem Qhs:Xk prog ZK (F.tbL.drop 120)=true:=XS 24 Qif (by rw[List.drop_drop];exact Qht)
theorem Qhr:Xk prog ZK (F.tbL.drop 96)=true:=XS 24 Qie (by rw[List.drop_drop];exact Qhs)
theorem Qhq:Xk prog ZK (F.tbL.drop 72)=true:=XS 24 Qid (by rw[List.drop_drop];exact Qhr)
theorem Qhp:Xk prog ZK (F.tbL.drop 48)=true:=XS 24 Qic (by rw[List.drop_drop];exact Qhq)
theorem Qho:Xk prog ZK (F.tbL.drop 24)=true:=XS 24 Qib (by rw[List.drop_drop];exact Qhp)
theorem Qhn:Xk prog ZK (F.tbL.drop 0)=true:=XS 24 Qia (by rw[List.drop_drop];exact Qho)
theorem Qij:Xk prog ZK F.tbL=true:=Qhn
theorem mixed:prog.follows .mixedOrders=true:=by kernel_rfl
def tbS:List (Nat×AFn):=[(30,.code F.f30),(31,.code F.f31),(32,.code F.f32),(33,.orc (XQ O1))]
theorem Qg0: ∀f,S.tb f=tbS.lookup f:=fun f=>by
 unfold S.tb tbS;by_cases h0:f=30
 ·subst h0;rfl
 by_cases h1:f=31
 ·subst h1;rfl
 by_cases h2:f=32
 ·subst h2;rfl
 by_cases h3:f=33
 ·subst h3;rfl
 have e0: (f == 30)=false:=by simpa using h0
 have e1: (f == 31)=false:=by simpa using h1
 have e2: (f == 32)=false:=by simpa using h2
 have e3: (f == 33)=false:=by simpa using h3
 rw[if_neg h0,if_neg h1,if_neg h2,if_neg h3];simp[List.lookup,e0,e1,e2,e3]
section
attribute [local instance] drT
theorem QhG:Mr prog num FR S.tb:=JS [33] Qg0 mixed PJ (by kernel_rfl) (by kernel_rfl) (Vh (WB S.tb_33 (show ZK.lookup 33=some 73 from rfl) (H9 fun a b w=>strings_Compare a b w)) Qgx)
end
theorem Qh9:Mq prog num 42:=Qdq (by kernel_rfl) QhG
instance drF:Dr:=⟨False⟩
theorem hD: ¬Dr.d:=fun h=>h
theorem QgE:Oat prog ZK WY F.tb 33:=WB F.tb_33 (show ZK.lookup 33=some 73 from rfl) (H9 fun a b w=>strings_Compare a b w)
theorem Qd8:Oat prog ZK WY F.tb 164:=WB F.tb_164 (show ZK.lookup 164=some 163 from rfl) (QbN hD fun s c w h1 h2 h3=>Go.Proofs.Any.strings_Trim_laid lays160 (by kernel_rfl) s c w h1 h2 h3)
theorem Qd9:Oat prog ZK WY F.tb 170:=WB F.tb_170 (show ZK.lookup 170=some 41 from rfl) (QbB hD laysSortFunc rfl (fun w=>Z6 (by kernel_rfl)) (fun w=>Za (by kernel_rfl)) (QbA (Uk PJ) (by kernel_rfl) Qh9))
theorem Qea:Oat prog ZK WY F.tb 181:=WB F.tb_181 (show ZK.lookup 181=some 61 from rfl) (CZ hD laysGrow rfl (z:= .agg #[.int .i64 0,.string ⟨#[]⟩,.int .i64 0,.slice none 0 0]) (by kernel_rfl) (by decide) (by kernel_rfl))
theorem Qeb:Oat prog ZK WY F.tb 193:=WB F.tb_193 (show ZK.lookup 193=some 9 from rfl) (UP mixed (Uk PJ) func9 W5)
theorem Qec:Oat prog ZK WY F.tb 194:=WB F.tb_194 (show ZK.lookup 194=some 189 from rfl) (Gw hD (Wf.con func189 (by decide)))
theorem Qed:Oat prog ZK WY F.tb 372:=WB F.tb_372 (show ZK.lookup 372=some 236 from rfl) (UP mixed (Uk PJ) func236 W4)
theorem Qee:Oat prog ZK WY F.tb 407:=WB F.tb_407 (show ZK.lookup 407=some 9 from rfl) (UP mixed (Uk PJ) func9 Vd)
theorem Qef:Oat prog ZK WY F.tb 525:=WB F.tb_525 (show ZK.lookup 525=some 49 from rfl) (UP mixed (Uk PJ) func49 Ws)
theorem Qeg:Oat prog ZK WY F.tb 526:=WB F.tb_526 (show ZK.lookup 526=some 48 from rfl) (Gw hD Qgy)
theorem Qeh:Oat prog ZK WY F.tb 557:=WB F.tb_557 (show ZK.lookup 557=some 210 from rfl) (UP mixed (Uk PJ) func210 WK)
theorem fits:Mr prog num WY F.tb:=JS [33,164,170,181,193,194,372,407,525,526,557] (fun _=>rfl) mixed PJ Qij (by kernel_rfl) (Vh QgE (Vh Qd8 (Vh Qd9 (Vh Qea (Vh Qeb (Vh Qec (Vh Qed (Vh Qee (Vh Qef (Vh Qeg (Vh Qeh (Qgx))))))))))))
end Go.Am.Chk
