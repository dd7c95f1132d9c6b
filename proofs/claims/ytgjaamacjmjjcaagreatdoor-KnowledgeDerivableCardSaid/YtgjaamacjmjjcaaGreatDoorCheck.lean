/-
  AmCheck.
-/
import Derived.Test.YtgjaamacjmjjcaaGreatDoorG36
import Derived.Test.YtgjaamacjmjjcaaGreatDoorG10
import Derived.Test.YtgjaamacjmjjcaaGreatDoorG07
import Derived.Test.YtgjaamacjmjjcaaGreatDoorG37
import Derived.WalkKit
import Derived.Test.YtgjaamacjmjjcaaGreatDoorShelf
import Derived.Test.YtgjaamacjmjjcaaGreatDoorProg
set_option linter.all false
namespace Go.Am.Chk
open Go.Proofs.Tryz
set_option maxRecDepth 20000
def YR:List (Nat×Nat):=[(6,141),(7,198),(8,242),(9,278),(30,65),(31,102),(32,101),(33,103),(41,121),(42,179),(43,196),(44,241),(45,277),(46,123),(47,180),(48,139),(49,293),(54,82),(55,133),(56,190),(57,146),(58,204),(59,205),(60,127),(61,134),(63,206),(71,122),(73,159),(74,213),(75,251),(89,43),(90,78),(91,126),(101,18),(102,48),(107,85),(112,14),(120,79),(126,80),(127,128),(128,84),(129,135),(130,182),(131,183),(132,110),(153,63),(154,98),(155,145),(156,147),(159,104),(160,93),(161,140),(162,197),(163,160),(164,214),(165,136),(166,191),(167,239),(168,89),(169,91),(170,64),(171,138),(172,66),(173,137),(174,192),(175,240),(176,273),(177,193),(178,274),(179,216),(180,50),(181,87),(182,218),(183,260),(184,217),(185,259),(186,94),(187,142),(188,199),(189,200),(190,244),(191,243),(192,246),(193,20),(194,245),(195,247),(196,275),(197,224),(198,292),(199,276),(200,169),(201,225),(202,226),(203,266),(204,265),(205,286),(206,195),(207,194),(214,51),(215,88),(231,113),(232,172),(233,95),(234,143),(235,201),(236,248),(237,83),(238,38),(239,42),(240,46),(241,45),(242,81),(243,129),(244,130),(245,185),(246,184),(247,187),(248,186),(249,237),(250,70),(251,188),(252,131),(253,144),(254,202),(255,249),(256,203),(257,232),(258,189),(259,231),(260,238),(261,132),(262,176),(263,233),(265,56),(281,16),(282,17),(283,44),(284,47),(292,11),(293,23),(294,58),(295,55),(296,57),(297,96),(298,97),(299,37),(300,71),(301,72),(302,111),(303,112),(304,77),(305,114),(306,115),(307,36),(308,73),(309,116),(310,117),(311,118),(312,173),(313,174),(314,229),(315,230),(316,271),(317,119),(318,175),(319,177),(320,178),(321,234),(322,235),(323,272),(324,289),(325,290),(326,303),(329,313),(330,120),(363,170),(372,299),(373,298),(375,311),(378,285),(407,20),(418,74),(497,66),(511,52),(512,90),(517,10),(518,32),(519,49),(520,86),(521,54),(522,92),(523,40),(524,69),(525,76),(526,75),(527,33),(528,67),(529,34),(530,35),(531,68),(532,105),(533,161),(534,106),(535,163),(536,164),(537,162),(538,215),(539,107),(540,165),(541,166),(542,219),(543,261),(544,221),(545,264),(546,285),(547,262),(548,220),(549,223),(550,263),(551,222),(552,108),(553,167),(554,168),(555,171),(556,227),(557,268),(558,269),(559,267),(560,228),(561,270),(562,287),(563,300),(564,301),(565,312),(566,302),(567,288),(568,109),(601,6),(602,8),(603,30),(604,31),(605,12),(606,39),(607,9),(608,22),(609,19),(610,53),(611,21),(612,304),(613,305),(614,291),(615,5),(616,3),(617,13),(618,41),(619,4),(620,15),(621,7),(622,24),(623,25),(624,26),(626,27),(627,60),(628,28),(629,61),(630,29),(631,62),(726,305),(727,59),(728,187),(729,186),(730,237),(731,42)]
def num:Nat→Option Nat:=fun f=>YR.lookup f
theorem Ra:Oz prog num true 56 4 f20=true:=by kernel_rfl
theorem S9:Oz prog num false 24 1 f299=true:=by kernel_rfl
theorem Rt:Oz prog num false 56 4 f20=true:=by kernel_rfl
theorem TT:Oz prog num true 56 4 f76=true:=by kernel_rfl
theorem Sz:Oz prog num true 64 5 f268=true:=by kernel_rfl
theorem Qus:prog.follows .mixedOrders=true:=by kernel_rfl
def L6:Go.Shelf.Ren:=⟨fun n=>match n with | 29=>279 | 30=>280 | 22=>245 | n=>n,fun n=>match n with | 24=>87 | 9=>91 | 3=>3 | 4=>4 | 0=>0 | n=>n,fun n=>n⟩
theorem Tz:Ps prog L6 f245 5 64 (.agg #[.int .i64 0,.string ⟨#[]⟩,.int .i64 0,.slice none 0 0,.int .i64 0]) where
 mixed:=Qus
 body:=by kernel_rfl
 ntmps:=by kernel_rfl
 res:=by kernel_rfl
 f29:=fun args w=>run_callFunc_extern (f:=L6.f 29) (fn:=f279) func279 (by kernel_rfl) (by kernel_rfl) (by kernel_rfl) (e:=Extern.SlicesOverlaps.overlaps #[L6.t 24,L6.t 24] #[L6.t 4]) (by kernel_rfl) args w
 t0:=by kernel_rfl
 t3:=by kernel_rfl
 t4:=by kernel_rfl
 t24:=by kernel_rfl
 i9:=by kernel_rfl
 zc:=by kernel_rfl
 a3:=fun w=>Wp (by kernel_rfl)
 a4:=fun w=>Wp (by kernel_rfl)
 a24:=fun w=>Wp (by kernel_rfl)
 z3:=fun w=>Yh (by kernel_rfl)
 z4:=fun w=>Yh (by kernel_rfl)
 z9:=fun w=>Yh (by kernel_rfl)
 z24:=fun w=>Yh (by kernel_rfl)
theorem Io: (YR.all fun p=>QfL prog p.2)=true:=by kernel_rfl
theorem QwS:WA prog YR ((F.tbL.drop 0).take 24)=true:=by kernel_rfl
theorem QwT:WA prog YR ((F.tbL.drop 24).take 24)=true:=by kernel_rfl
theorem QwU:WA prog YR ((F.tbL.drop 48).take 24)=true:=by kernel_rfl
theorem QwV:WA prog YR ((F.tbL.drop 72).take 24)=true:=by kernel_rfl
theorem QwW:WA prog YR ((F.tbL.drop 96).take 24)=true:=by kernel_rfl
theorem QwX:WA prog YR ((F.tbL.drop 120).take 24)=true:=by kernel_rfl
theorem QwY:WA prog YR ((F.tbL.drop 144).take 24)=true:=by kernel_rfl
theorem QwZ:WA prog YR ((F.tbL.drop 168).take 24)=true:=by kernel_rfl
theorem Qw0:WA prog YR ((F.tbL.drop 192).take 24)=true:=by kernel_rfl
theorem Qw1:WA prog YR ((F.tbL.drop 216).take 24)=true:=by kernel_rfl
theorem QvB:WA prog YR ((F.tbL.drop 240).take 24)=true:=by kernel_rfl
theorem QvC:WA prog YR ((F.tbL.drop 264).take 24)=true:=by kernel_rfl
theorem Qtz:WA prog YR (F.tbL.drop 288)=true:=by kernel_rfl
theorem Qty:WA prog YR (F.tbL.drop 264)=true:=Vf 24 QvC (by rw[List.drop_drop];exact Qtz)
theorem Qtx:WA prog YR (F.tbL.drop 240)=true:=Vf 24 QvB (by rw[List.drop_drop];exact Qty)
theorem QvM:WA prog YR (F.tbL.drop 216)=true:=Vf 24 Qw1 (by rw[List.drop_drop];exact Qtx)
theorem QvL:WA prog YR (F.tbL.drop 192)=true:=Vf 24 Qw0 (by rw[List.drop_drop];exact QvM)
theorem QvK:WA prog YR (F.tbL.drop 168)=true:=Vf 24 QwZ (by rw[List.drop_drop];exact QvL)
theorem QvJ:WA prog YR (F.tbL.drop 144)=true:=Vf 24 QwY (by rw[List.drop_drop];exact QvK)
theorem QvI:WA prog YR (F.tbL.drop 120)=true:=Vf 24 QwX (by rw[List.drop_drop];exact QvJ)
theorem QvH:WA prog YR (F.tbL.drop 96)=true:=Vf 24 QwW (by rw[List.drop_drop];exact QvI)
theorem QvG:WA prog YR (F.tbL.drop 72)=true:=Vf 24 QwV (by rw[List.drop_drop];exact QvH)
theorem QvF:WA prog YR (F.tbL.drop 48)=true:=Vf 24 QwU (by rw[List.drop_drop];exact QvG)
theorem QvE:WA prog YR (F.tbL.drop 24)=true:=Vf 24 QwT (by rw[List.drop_drop];exact QvF)
theorem QvD:WA prog YR (F.tbL.drop 0)=true:=Vf 24 QwS (by rw[List.drop_drop];exact QvE)
theorem Qw2:WA prog YR F.tbL=true:=QvD
theorem mixed:prog.follows .mixedOrders=true:=by kernel_rfl
def tbS:List (Nat×AFn):=[(30,.code F.f30),(31,.code F.f31),(32,.code F.f32),(33,.orc (UL HP))]
theorem QuZ: ∀f,S.tb f=tbS.lookup f:=fun f=>by
 unfold S.tb tbS;by_cases h0:f=30
 ·subst h0;rfl
 by_cases h1:f=31
 ·subst h1;rfl
 by_cases h2:f=32
 ·subst h2;rfl
 by_cases h3:f=33
 ·subst h3;rfl
 have e0: (f == 30)=false:=by simpa using h0
 have e1: (f == 31)=false:=by simpa using h1
 have e2: (f == 32)=false:=by simpa using h2
 have e3: (f == 33)=false:=by simpa using h3
 rw[if_neg h0,if_neg h1,if_neg h2,if_neg h3];simp[List.lookup,e0,e1,e2,e3]
section
attribute [local instance] drT
theorem Qv1:Ep prog num QfV S.tb:=QaA [33] QuZ mixed Io (by kernel_rfl) (by kernel_rfl) (Rz (Sa S.tb_33 (show YR.lookup 33=some 103 from rfl) (QdD fun a b w=>strings_Compare a b w)) Qud)
end
theorem QwR:Eo prog num 65:=Qpq (by kernel_rfl) Qv1
instance drF:Dr:=⟨False⟩
theorem hD: ¬Dr.d:=fun h=>h
theorem Quv:Oat prog YR S6 F.tb 33:=Sa F.tb_33 (show YR.lookup 33=some 103 from rfl) (QdD fun a b w=>strings_Compare a b w)
theorem Qqp:Oat prog YR S6 F.tb 164:=Sa F.tb_164 (show YR.lookup 164=some 214 from rfl) (Qm3 hD fun s c w h1 h2 h3=>Go.Proofs.Any.strings_Trim_laid lays160 (by kernel_rfl) s c w h1 h2 h3)
theorem Qqq:Oat prog YR S6 F.tb 170:=Sa F.tb_170 (show YR.lookup 170=some 64 from rfl) (QmQ hD laysSortFunc rfl (fun w=>Wp (by kernel_rfl)) (fun w=>Yh (by kernel_rfl)) (QmP (Ou Io) (by kernel_rfl) QwR))
theorem Qqr:Oat prog YR S6 F.tb 181:=Sa F.tb_181 (show YR.lookup 181=some 87 from rfl) (QiX hD laysGrow rfl (z:= .agg #[.int .i64 0,.string ⟨#[]⟩,.int .i64 0,.slice none 0 0]) (by kernel_rfl) (by decide) (by kernel_rfl))
theorem Qqs:Oat prog YR S6 F.tb 193:=Sa F.tb_193 (show YR.lookup 193=some 20 from rfl) (Np mixed (Ou Io) func20 Ra)
theorem Qqt:Oat prog YR S6 F.tb 194:=Sa F.tb_194 (show YR.lookup 194=some 245 from rfl) (Qd6 hD (Tz.con func245 (by decide)))
theorem Qqu:Oat prog YR S6 F.tb 372:=Sa F.tb_372 (show YR.lookup 372=some 299 from rfl) (Np mixed (Ou Io) func299 S9)
theorem Qqv:Oat prog YR S6 F.tb 407:=Sa F.tb_407 (show YR.lookup 407=some 20 from rfl) (Np mixed (Ou Io) func20 Rt)
theorem Qqw:Oat prog YR S6 F.tb 525:=Sa F.tb_525 (show YR.lookup 525=some 76 from rfl) (Np mixed (Ou Io) func76 TT)
theorem Qqx:Oat prog YR S6 F.tb 526:=Sa F.tb_526 (show YR.lookup 526=some 75 from rfl) (Qd6 hD Quk)
theorem Qqy:Oat prog YR S6 F.tb 557:=Sa F.tb_557 (show YR.lookup 557=some 268 from rfl) (Np mixed (Ou Io) func268 Sz)
theorem fits:Ep prog num S6 F.tb:=QaA [33,164,170,181,193,194,372,407,525,526,557] (fun _=>rfl) mixed Io Qw2 (by kernel_rfl) (Rz Quv (Rz Qqp (Rz Qqq (Rz Qqr (Rz Qqs (Rz Qqt (Rz Qqu (Rz Qqv (Rz Qqw (Rz Qqx (Rz Qqy (Qud))))))))))))
end Go.Am.Chk
