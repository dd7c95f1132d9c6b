/-
  AmCheck.
-/
import Derived.Test.YtpgbndmkiiakaaaGreatDoorG44
import Derived.Test.YtpgbndmkiiakaaaGreatDoorG13
import Derived.Test.YtpgbndmkiiakaaaGreatDoorG09
import Derived.WalkKit
import Derived.Test.YtpgbndmkiiakaaaGreatDoorShelf
import Derived.Test.YtpgbndmkiiakaaaGreatDoorProg
set_option linter.unusedVariables false
set_option linter.unusedSimpArgs false
namespace Go.Am.Chk
open Go.Proofs.Tryz
def ZW:List (Nat×Nat):=[(6,103),(7,166),(8,214),(9,249),(18,89),(30,48),(31,85),(32,84),(33,86),(41,105),(42,170),(43,174),(44,217),(45,258),(46,206),(47,183),(48,229),(49,228),(54,102),(55,164),(56,213),(57,162),(58,210),(59,211),(60,124),(61,165),(63,212),(71,205),(73,168),(74,215),(75,250),(89,37),(90,73),(91,123),(101,9),(102,31),(107,30),(120,153),(126,117),(127,188),(128,120),(129,189),(130,231),(131,232),(132,152),(153,59),(154,101),(155,161),(156,163),(157,126),(158,60),(159,104),(160,167),(161,204),(162,248),(163,169),(164,216),(165,106),(166,127),(167,195),(168,194),(169,196),(170,47),(171,242),(172,241),(173,107),(174,63),(175,111),(176,178),(177,171),(178,179),(179,219),(180,74),(181,125),(182,221),(183,220),(184,222),(185,259),(186,180),(187,223),(188,260),(189,261),(190,281),(191,280),(192,225),(193,46),(194,282),(195,283),(196,181),(197,224),(198,226),(199,182),(200,227),(201,262),(202,263),(203,285),(204,284),(205,294),(206,173),(207,172),(208,112),(209,110),(210,80),(211,176),(212,218),(213,184),(214,43),(215,78),(216,176),(217,43),(218,78),(219,33),(220,62),(221,109),(222,113),(223,185),(224,177),(225,64),(226,65),(227,114),(230,66),(231,115),(232,186),(233,116),(234,187),(235,230),(236,264),(237,118),(238,139),(239,51),(240,141),(241,69),(242,122),(243,190),(244,191),(245,234),(246,233),(247,236),(248,235),(249,265),(250,49),(251,237),(252,192),(253,238),(254,266),(255,286),(256,267),(257,270),(258,239),(259,268),(260,269),(261,193),(262,240),(263,271),(264,77),(265,87),(267,36),(268,68),(269,71),(270,94),(271,151),(272,150),(273,121),(274,70),(275,72),(304,154),(398,7),(399,29),(400,14),(401,12),(402,38),(403,61),(404,108),(405,175),(406,39),(407,46),(408,75),(409,76),(410,34),(411,25),(412,32),(413,57),(414,54),(415,90),(416,144),(417,145),(418,146),(419,147),(420,208),(421,207),(422,158),(423,92),(424,93),(425,149),(426,91),(427,148),(428,97),(429,157),(430,55),(431,98),(432,10),(433,16),(434,44),(435,45),(436,79),(437,81),(438,18),(439,40),(440,35),(441,67),(442,119),(443,11),(444,8),(448,26),(449,58),(450,56),(451,95),(452,155),(453,159),(454,209),(455,96),(456,156),(457,99),(458,100),(459,160),(470,6),(471,23),(472,24),(473,27),(474,28)]
def num:Nat→Option Nat:=fun f=>ZW.lookup f
theorem Vl:N7 prog num true 56 4 f46=true:=by kernel_rfl
theorem VA:N7 prog num false 56 4 f46=true:=by kernel_rfl
theorem Qks:prog.follows .mixedOrders=true:=by kernel_rfl
def P1:Go.Shelf.Ren:=⟨fun n=>match n with | 29=>292 | 30=>293 | 22=>282 | n=>n,fun n=>match n with | 24=>173 | 9=>199 | 3=>3 | 4=>4 | 0=>0 | n=>n,fun n=>n⟩
theorem Wx:V3 prog P1 f282 5 64 (.agg #[.int .i64 0,.string ⟨#[]⟩,.int .i64 0,.slice none 0 0,.int .i64 0]) where
 mixed:=Qks
 body:=by kernel_rfl
 ntmps:=by kernel_rfl
 res:=by kernel_rfl
 f29:=fun args w=>run_callFunc_extern (f:=P1.f 29) (fn:=f292) func292 (by kernel_rfl) (by kernel_rfl) (by kernel_rfl) (e:=Extern.SlicesOverlaps.overlaps #[P1.t 24,P1.t 24] #[P1.t 4]) (by kernel_rfl) args w
 t0:=by kernel_rfl
 t3:=by kernel_rfl
 t4:=by kernel_rfl
 t24:=by kernel_rfl
 i9:=by kernel_rfl
 zc:=by kernel_rfl
 a3:=fun w=>YL (by kernel_rfl)
 a4:=fun w=>YL (by kernel_rfl)
 a24:=fun w=>YL (by kernel_rfl)
 z3:=fun w=>ZF (by kernel_rfl)
 z4:=fun w=>ZF (by kernel_rfl)
 z9:=fun w=>ZF (by kernel_rfl)
 z24:=fun w=>ZF (by kernel_rfl)
theorem Vs: (ZW.all fun p=>CU prog p.2)=true:=by kernel_rfl
theorem QlS:YW prog ZW ((F.tbL.drop 0).take 24)=true:=by kernel_rfl
theorem QlT:YW prog ZW ((F.tbL.drop 24).take 24)=true:=by kernel_rfl
theorem QlU:YW prog ZW ((F.tbL.drop 48).take 24)=true:=by kernel_rfl
theorem QlV:YW prog ZW ((F.tbL.drop 72).take 24)=true:=by kernel_rfl
theorem QlW:YW prog ZW ((F.tbL.drop 96).take 24)=true:=by kernel_rfl
theorem QlX:YW prog ZW ((F.tbL.drop 120).take 24)=true:=by kernel_rfl
theorem QlY:YW prog ZW ((F.tbL.drop 144).take 24)=true:=by kernel_rfl
theorem QlZ:YW prog ZW ((F.tbL.drop 168).take 24)=true:=by kernel_rfl
theorem Ql0:YW prog ZW ((F.tbL.drop 192).take 24)=true:=by kernel_rfl
theorem Ql1:YW prog ZW ((F.tbL.drop 216).take 24)=true:=by kernel_rfl
theorem QjR:YW prog ZW (F.tbL.drop 240)=true:=by kernel_rfl
theorem Qlq:YW prog ZW (F.tbL.drop 216)=true:=XB 24 Ql1 (by rw[List.drop_drop];exact QjR)
theorem Qlp:YW prog ZW (F.tbL.drop 192)=true:=XB 24 Ql0 (by rw[List.drop_drop];exact Qlq)
theorem Qlo:YW prog ZW (F.tbL.drop 168)=true:=XB 24 QlZ (by rw[List.drop_drop];exact Qlp)
theorem Qln:YW prog ZW (F.tbL.drop 144)=true:=XB 24 QlY (by rw[List.drop_drop];exact Qlo)
theorem Qlm:YW prog ZW (F.tbL.drop 120)=true:=XB 24 QlX (by rw[List.drop_drop];exact Qln)
theorem Qll:YW prog ZW (F.tbL.drop 96)=true:=XB 24 QlW (by rw[List.drop_drop];exact Qlm)
theorem Qlk:YW prog ZW (F.tbL.drop 72)=true:=XB 24 QlV (by rw[List.drop_drop];exact Qll)
theorem Qlj:YW prog ZW (F.tbL.drop 48)=true:=XB 24 QlU (by rw[List.drop_drop];exact Qlk)
theorem Qli:YW prog ZW (F.tbL.drop 24)=true:=XB 24 QlT (by rw[List.drop_drop];exact Qlj)
theorem Qlh:YW prog ZW (F.tbL.drop 0)=true:=XB 24 QlS (by rw[List.drop_drop];exact Qli)
theorem Ql2:YW prog ZW F.tbL=true:=Qlh
theorem mixed:prog.follows .mixedOrders=true:=by kernel_rfl
def tbS:List (Nat×AFn):=[(30,.code F.f30),(31,.code F.f31),(32,.code F.f32),(33,.orc (YZ MB))]
theorem QkF: ∀f,S.tb f=tbS.lookup f:=fun f=>by
 unfold S.tb tbS
 by_cases h0:f=30
 ·subst h0;rfl
 by_cases h1:f=31
 ·subst h1;rfl
 by_cases h2:f=32
 ·subst h2;rfl
 by_cases h3:f=33
 ·subst h3;rfl
 have e0: (f == 30)=false:=by simpa using h0
 have e1: (f == 31)=false:=by simpa using h1
 have e2: (f == 32)=false:=by simpa using h2
 have e3: (f == 33)=false:=by simpa using h3
 rw[if_neg h0,if_neg h1,if_neg h2,if_neg h3]
 simp[List.lookup,e0,e1,e2,e3]
section
attribute [local instance] drT
theorem Qly:L0 prog num C1 S.tb:=GD [33] QkF mixed Vs (by kernel_rfl) (by kernel_rfl) (Ti (Uj S.tb_33 (show ZW.lookup 33=some 86 from rfl) (Ds fun a b w=>strings_Compare a b w)) Qko)
end
theorem QlR:LZ prog num 48:=QgM (by kernel_rfl) Qly
instance drF:Dr:=⟨False⟩
theorem hD: ¬Dr.d:=fun h=>h
theorem Qku:Oat prog ZW (glob prog) F.tb 18:=Uj F.tb_18 (show ZW.lookup 18=some 89 from rfl) (Qdx fun n h0 h1 w ht=>strconv_Itoa n h0 h1 w ht)
theorem Qkv:Oat prog ZW (glob prog) F.tb 33:=Uj F.tb_33 (show ZW.lookup 33=some 86 from rfl) (Ds fun a b w=>strings_Compare a b w)
theorem Qhy:Oat prog ZW (glob prog) F.tb 164:=Uj F.tb_164 (show ZW.lookup 164=some 216 from rfl) (Qem hD fun s c w h1 h2 h3=>Go.Proofs.Any.strings_Trim_laid lays160 (by kernel_rfl) s c w h1 h2 h3)
theorem Qhz:Oat prog ZW (glob prog) F.tb 170:=Uj F.tb_170 (show ZW.lookup 170=some 47 from rfl) (Qee hD laysSortFunc rfl (fun w=>YL (by kernel_rfl)) (fun w=>ZF (by kernel_rfl)) (Qed (NY Vs) (by kernel_rfl) QlR))
theorem QhA:Oat prog ZW (glob prog) F.tb 181:=Uj F.tb_181 (show ZW.lookup 181=some 125 from rfl) (Qbz hD laysGrow rfl (z:= .agg #[.int .i64 0,.string ⟨#[]⟩,.int .i64 0,.slice none 0 0]) (by kernel_rfl) (by decide) (by kernel_rfl))
theorem QhB:Oat prog ZW (glob prog) F.tb 193:=Uj F.tb_193 (show ZW.lookup 193=some 46 from rfl) (Jj mixed (NY Vs) func46 Vl)
theorem QhC:Oat prog ZW (glob prog) F.tb 194:=Uj F.tb_194 (show ZW.lookup 194=some 282 from rfl) (Qhn hD Wx func282)
theorem QhD:Oat prog ZW (glob prog) F.tb 407:=Uj F.tb_407 (show ZW.lookup 407=some 46 from rfl) (Jj mixed (NY Vs) func46 VA)
theorem fits:L0 prog num (glob prog) F.tb:=GD [18,33,164,170,181,193,194,407] (fun _=>rfl) mixed Vs Ql2 (by kernel_rfl) (Ti Qku (Ti Qkv (Ti Qhy (Ti Qhz (Ti QhA (Ti QhB (Ti QhC (Ti QhD (Qko)))))))))
end Go.Am.Chk
