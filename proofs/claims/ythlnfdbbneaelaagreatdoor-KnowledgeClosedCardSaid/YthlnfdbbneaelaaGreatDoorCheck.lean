/-
  AmCheck.
-/
import Derived.Test.YthlnfdbbneaelaaGreatDoorG43
import Derived.Test.YthlnfdbbneaelaaGreatDoorG10
import Derived.Test.YthlnfdbbneaelaaGreatDoorG07
import Derived.Test.YthlnfdbbneaelaaGreatDoorG44
import Derived.WalkKit
import Derived.Test.YthlnfdbbneaelaaGreatDoorShelf
import Derived.Test.YthlnfdbbneaelaaGreatDoorProg
set_option linter.all false
namespace Go.Am.Chk
open Go.Proofs.Tryz
set_option maxRecDepth 20000
def Xf:List (Nat×Nat):=[(6,100),(7,154),(8,189),(9,222),(30,53),(31,95),(32,94),(33,96),(41,89),(42,135),(43,141),(44,182),(45,220),(46,122),(47,173),(48,98),(49,249),(54,45),(55,85),(56,134),(57,126),(58,175),(59,176),(60,86),(61,87),(63,177),(71,121),(73,157),(74,195),(75,225),(89,37),(90,75),(91,120),(107,48),(112,15),(120,42),(126,43),(127,80),(128,47),(129,88),(130,128),(131,129),(132,66),(153,41),(154,79),(155,125),(156,127),(159,102),(160,62),(161,99),(162,153),(163,158),(164,196),(165,90),(166,136),(167,180),(168,57),(169,59),(170,52),(171,97),(172,54),(173,91),(174,137),(175,181),(176,216),(177,138),(178,217),(179,198),(180,22),(181,50),(182,200),(183,234),(184,199),(185,233),(186,63),(187,101),(188,155),(189,156),(190,191),(191,190),(192,193),(193,51),(194,192),(195,194),(196,218),(197,206),(198,248),(199,219),(200,167),(201,207),(202,208),(203,240),(204,239),(205,256),(206,140),(207,139),(214,24),(215,56),(231,31),(232,65),(237,46),(239,215),(240,18),(241,17),(242,44),(243,81),(244,82),(245,130),(246,109),(247,108),(248,131),(249,178),(250,11),(251,132),(252,83),(253,74),(254,118),(255,171),(256,119),(257,113),(258,133),(259,112),(260,179),(261,84),(262,71),(263,114),(281,6),(282,7),(283,16),(284,19),(297,115),(304,67),(307,30),(308,10),(309,32),(310,33),(311,34),(312,68),(313,69),(314,110),(315,111),(316,170),(317,35),(318,70),(319,72),(320,73),(321,116),(322,117),(323,172),(324,211),(325,212),(326,245),(329,259),(330,36),(363,168),(372,265),(373,264),(375,273),(378,255),(418,76),(497,54),(511,25),(512,58),(517,38),(518,20),(519,21),(520,49),(521,28),(522,61),(523,40),(524,60),(525,78),(526,77),(527,23),(528,55),(529,29),(530,27),(531,64),(532,103),(533,159),(534,104),(535,161),(536,162),(537,160),(538,197),(539,105),(540,163),(541,164),(542,201),(543,235),(544,203),(545,238),(546,255),(547,236),(548,202),(549,205),(550,237),(551,204),(552,106),(553,165),(554,166),(555,169),(556,209),(557,242),(558,243),(559,241),(560,210),(561,244),(562,257),(563,266),(564,267),(565,274),(566,268),(567,258),(568,107),(602,4),(603,12),(604,14),(605,13),(606,39),(608,8),(609,9),(610,26),(612,246),(613,247),(614,213),(620,5),(726,247),(728,108),(729,131),(730,178),(731,215),(733,3)]
def num:Nat→Option Nat:=fun f=>Xf.lookup f
theorem SP:NR prog num true 56 4 f51=true:=by kernel_rfl
theorem SO:NR prog num false 24 1 f265=true:=by kernel_rfl
theorem TA:NR prog num true 56 4 f78=true:=by kernel_rfl
theorem T6:NR prog num true 64 5 f242=true:=by kernel_rfl
theorem Quv:prog.follows .mixedOrders=true:=by kernel_rfl
def LU:Go.Shelf.Ren:=⟨fun n=>match n with | 29=>223 | 30=>224 | 22=>192 | n=>n,fun n=>match n with | 24=>78 | 9=>82 | 3=>3 | 4=>4 | 0=>0 | n=>n,fun n=>n⟩
theorem Ti:R8 prog LU f192 5 64 (.agg #[.int .i64 0,.string ⟨#[]⟩,.int .i64 0,.slice none 0 0,.int .i64 0]) where
 mixed:=Quv
 body:=by kernel_rfl
 ntmps:=by kernel_rfl
 res:=by kernel_rfl
 f29:=fun args w=>run_callFunc_extern (f:=LU.f 29) (fn:=f223) func223 (by kernel_rfl) (by kernel_rfl) (by kernel_rfl) (e:=Extern.SlicesOverlaps.overlaps #[LU.t 24,LU.t 24] #[LU.t 4]) (by kernel_rfl) args w
 t0:=by kernel_rfl
 t3:=by kernel_rfl
 t4:=by kernel_rfl
 t24:=by kernel_rfl
 i9:=by kernel_rfl
 zc:=by kernel_rfl
 a3:=fun w=>Wk (by kernel_rfl)
 a4:=fun w=>Wk (by kernel_rfl)
 a24:=fun w=>Wk (by kernel_rfl)
 z3:=fun w=>Yp (by kernel_rfl)
 z4:=fun w=>Yp (by kernel_rfl)
 z9:=fun w=>Yp (by kernel_rfl)
 z24:=fun w=>Yp (by kernel_rfl)
theorem Hv: (Xf.all fun p=>Qfs prog p.2)=true:=by kernel_rfl
theorem QwT:Vn prog Xf ((F.tbL.drop 0).take 24)=true:=by kernel_rfl
theorem QwU:Vn prog Xf ((F.tbL.drop 24).take 24)=true:=by kernel_rfl
theorem QwV:Vn prog Xf ((F.tbL.drop 48).take 24)=true:=by kernel_rfl
theorem QwW:Vn prog Xf ((F.tbL.drop 72).take 24)=true:=by kernel_rfl
theorem QwX:Vn prog Xf ((F.tbL.drop 96).take 24)=true:=by kernel_rfl
theorem QwY:Vn prog Xf ((F.tbL.drop 120).take 24)=true:=by kernel_rfl
theorem QwZ:Vn prog Xf ((F.tbL.drop 144).take 24)=true:=by kernel_rfl
theorem Qw0:Vn prog Xf ((F.tbL.drop 168).take 24)=true:=by kernel_rfl
theorem Qw1:Vn prog Xf ((F.tbL.drop 192).take 24)=true:=by kernel_rfl
theorem Qw2:Vn prog Xf ((F.tbL.drop 216).take 24)=true:=by kernel_rfl
theorem QtC:Vn prog Xf (F.tbL.drop 240)=true:=by kernel_rfl
theorem QvO:Vn prog Xf (F.tbL.drop 216)=true:=V7 24 Qw2 (by rw[List.drop_drop];exact QtC)
theorem QvN:Vn prog Xf (F.tbL.drop 192)=true:=V7 24 Qw1 (by rw[List.drop_drop];exact QvO)
theorem QvM:Vn prog Xf (F.tbL.drop 168)=true:=V7 24 Qw0 (by rw[List.drop_drop];exact QvN)
theorem QvL:Vn prog Xf (F.tbL.drop 144)=true:=V7 24 QwZ (by rw[List.drop_drop];exact QvM)
theorem QvK:Vn prog Xf (F.tbL.drop 120)=true:=V7 24 QwY (by rw[List.drop_drop];exact QvL)
theorem QvJ:Vn prog Xf (F.tbL.drop 96)=true:=V7 24 QwX (by rw[List.drop_drop];exact QvK)
theorem QvI:Vn prog Xf (F.tbL.drop 72)=true:=V7 24 QwW (by rw[List.drop_drop];exact QvJ)
theorem QvH:Vn prog Xf (F.tbL.drop 48)=true:=V7 24 QwV (by rw[List.drop_drop];exact QvI)
theorem QvG:Vn prog Xf (F.tbL.drop 24)=true:=V7 24 QwU (by rw[List.drop_drop];exact QvH)
theorem QvF:Vn prog Xf (F.tbL.drop 0)=true:=V7 24 QwT (by rw[List.drop_drop];exact QvG)
theorem Qw3:Vn prog Xf F.tbL=true:=QvF
theorem mixed:prog.follows .mixedOrders=true:=by kernel_rfl
def tbS:List (Nat×AFn):=[(30,.code F.f30),(31,.code F.f31),(32,.code F.f32),(33,.orc (UA Hq))]
theorem Qu3: ∀f,S.tb f=tbS.lookup f:=fun f=>by
 unfold S.tb tbS;by_cases h0:f=30
 ·subst h0;rfl
 by_cases h1:f=31
 ·subst h1;rfl
 by_cases h2:f=32
 ·subst h2;rfl
 by_cases h3:f=33
 ·subst h3;rfl
 have e0: (f == 30)=false:=by simpa using h0
 have e1: (f == 31)=false:=by simpa using h1
 have e2: (f == 32)=false:=by simpa using h2
 have e3: (f == 33)=false:=by simpa using h3
 rw[if_neg h0,if_neg h1,if_neg h2,if_neg h3];simp[List.lookup,e0,e1,e2,e3]
section
attribute [local instance] drT
theorem Qv5:FX prog num QfD S.tb:=AU [33] Qu3 mixed Hv (by kernel_rfl) (by kernel_rfl) (Py (Sj S.tb_33 (show Xf.lookup 33=some 96 from rfl) (Qda fun a b w=>strings_Compare a b w)) Qug)
end
theorem QwS:FW prog num 53:=Qpi (by kernel_rfl) Qv5
instance drF:Dr:=⟨False⟩
theorem hD: ¬Dr.d:=fun h=>h
theorem QuB:Oat prog Xf Rh F.tb 33:=Sj F.tb_33 (show Xf.lookup 33=some 96 from rfl) (Qda fun a b w=>strings_Compare a b w)
theorem Qqs:Oat prog Xf Rh F.tb 164:=Sj F.tb_164 (show Xf.lookup 164=some 196 from rfl) (Qm3 hD fun s c w h1 h2 h3=>Go.Proofs.Any.strings_Trim_laid lays160 (by kernel_rfl) s c w h1 h2 h3)
theorem Qqt:Oat prog Xf Rh F.tb 170:=Sj F.tb_170 (show Xf.lookup 170=some 52 from rfl) (QmP hD laysSortFunc rfl (fun w=>Wk (by kernel_rfl)) (fun w=>Yp (by kernel_rfl)) (QmO (NM Hv) (by kernel_rfl) QwS))
theorem Qqu:Oat prog Xf Rh F.tb 181:=Sj F.tb_181 (show Xf.lookup 181=some 50 from rfl) (QiQ hD laysGrow rfl (z:= .agg #[.int .i64 0,.string ⟨#[]⟩,.int .i64 0,.slice none 0 0]) (by kernel_rfl) (by decide) (by kernel_rfl))
theorem Qqv:Oat prog Xf Rh F.tb 193:=Sj F.tb_193 (show Xf.lookup 193=some 51 from rfl) (MP mixed (NM Hv) func51 SP)
theorem Qqw:Oat prog Xf Rh F.tb 194:=Sj F.tb_194 (show Xf.lookup 194=some 192 from rfl) (QdC hD (Ti.con func192 (by decide)))
theorem Qqx:Oat prog Xf Rh F.tb 372:=Sj F.tb_372 (show Xf.lookup 372=some 265 from rfl) (MP mixed (NM Hv) func265 SO)
theorem Qqy:Oat prog Xf Rh F.tb 525:=Sj F.tb_525 (show Xf.lookup 525=some 78 from rfl) (MP mixed (NM Hv) func78 TA)
theorem Qqz:Oat prog Xf Rh F.tb 526:=Sj F.tb_526 (show Xf.lookup 526=some 77 from rfl) (QdC hD Quk)
theorem QqA:Oat prog Xf Rh F.tb 557:=Sj F.tb_557 (show Xf.lookup 557=some 242 from rfl) (MP mixed (NM Hv) func242 T6)
theorem fits:FX prog num Rh F.tb:=AU [33,164,170,181,193,194,372,525,526,557] (fun _=>rfl) mixed Hv Qw3 (by kernel_rfl) (Py QuB (Py Qqs (Py Qqt (Py Qqu (Py Qqv (Py Qqw (Py Qqx (Py Qqy (Py Qqz (Py QqA (Qug)))))))))))
end Go.Am.Chk
