/-
  AmCheck.
-/
import Derived.Test.YtpgbndmkiiakaaaGreatDoorG45
import Derived.Test.YtpgbndmkiiakaaaGreatDoorG13
import Derived.Test.YtpgbndmkiiakaaaGreatDoorG09
import Derived.WalkKit
import Derived.Test.YtpgbndmkiiakaaaGreatDoorShelf
import Derived.Test.YtpgbndmkiiakaaaGreatDoorProg
set_option linter.unusedVariables false
set_option linter.unusedSimpArgs false
namespace Go.Am.Chk
open Go.Proofs.Tryz
def Yj:List (Nat×Nat):=[(6,103),(7,166),(8,214),(9,249),(18,89),(30,48),(31,85),(32,84),(33,86),(41,105),(42,170),(43,174),(44,217),(45,258),(46,206),(47,183),(48,229),(49,228),(54,102),(55,164),(56,213),(57,162),(58,210),(59,211),(60,124),(61,165),(63,212),(71,205),(73,168),(74,215),(75,250),(89,37),(90,73),(91,123),(101,9),(102,31),(107,30),(120,153),(126,117),(127,188),(128,120),(129,189),(130,231),(131,232),(132,152),(153,59),(154,101),(155,161),(156,163),(157,126),(158,60),(159,104),(160,167),(161,204),(162,248),(163,169),(164,216),(165,106),(166,127),(167,195),(168,194),(169,196),(170,47),(171,242),(172,241),(173,107),(174,63),(175,111),(176,178),(177,171),(178,179),(179,219),(180,74),(181,125),(182,221),(183,220),(184,222),(185,259),(186,180),(187,223),(188,260),(189,261),(190,281),(191,280),(192,225),(193,46),(194,282),(195,283),(196,181),(197,224),(198,226),(199,182),(200,227),(201,262),(202,263),(203,285),(204,284),(205,294),(206,173),(207,172),(208,112),(209,110),(210,80),(211,176),(212,218),(213,184),(214,43),(215,78),(216,176),(217,43),(218,78),(219,33),(220,62),(221,109),(222,113),(223,185),(224,177),(225,64),(226,65),(227,114),(230,66),(231,115),(232,186),(233,116),(234,187),(235,230),(236,264),(237,118),(238,139),(239,51),(240,141),(241,69),(242,122),(243,190),(244,191),(245,234),(246,233),(247,236),(248,235),(249,265),(250,49),(251,237),(252,192),(253,238),(254,266),(255,286),(256,267),(257,270),(258,239),(259,268),(260,269),(261,193),(262,240),(263,271),(264,77),(265,87),(267,36),(268,68),(269,71),(270,94),(271,151),(272,150),(273,121),(274,70),(275,72),(304,154),(398,7),(399,29),(400,14),(401,12),(402,38),(403,61),(404,108),(405,175),(406,39),(407,46),(408,75),(409,76),(410,34),(411,25),(412,32),(413,57),(414,54),(415,90),(416,144),(417,145),(418,146),(419,147),(420,208),(421,207),(422,158),(423,92),(424,93),(425,149),(426,91),(427,148),(428,97),(429,157),(430,55),(431,98),(432,10),(433,16),(434,44),(435,45),(436,79),(437,81),(438,18),(439,40),(440,35),(441,67),(442,119),(443,11),(444,8),(445,4),(446,13),(447,41),(448,26),(449,58),(450,56),(451,95),(452,155),(453,159),(454,209),(455,96),(456,156),(457,99),(458,100),(459,160),(461,15),(462,17),(463,19),(464,50),(475,42)]
def num:Nat→Option Nat:=fun f=>Yj.lookup f
theorem VW:LG prog num true 56 4 f46=true:=by kernel_rfl
theorem Ud:LG prog num false 56 4 f46=true:=by kernel_rfl
theorem Qm9:prog.follows .mixedOrders=true:=by kernel_rfl
def O7:Go.Shelf.Ren:=⟨fun n=>match n with | 29=>292 | 30=>293 | 22=>282 | n=>n,fun n=>match n with | 24=>173 | 9=>199 | 3=>3 | 4=>4 | 0=>0 | n=>n,fun n=>n⟩
theorem W2:UJ prog O7 f282 5 64 (.agg #[.int .i64 0,.string ⟨#[]⟩,.int .i64 0,.slice none 0 0,.int .i64 0]) where
 mixed:=Qm9
 body:=by kernel_rfl
 ntmps:=by kernel_rfl
 res:=by kernel_rfl
 f29:=fun args w=>run_callFunc_extern (f:=O7.f 29) (fn:=f292) func292 (by kernel_rfl) (by kernel_rfl) (by kernel_rfl) (e:=Extern.SlicesOverlaps.overlaps #[O7.t 24,O7.t 24] #[O7.t 4]) (by kernel_rfl) args w
 t0:=by kernel_rfl
 t3:=by kernel_rfl
 t4:=by kernel_rfl
 t24:=by kernel_rfl
 i9:=by kernel_rfl
 zc:=by kernel_rfl
 a3:=fun w=>Xi (by kernel_rfl)
 a4:=fun w=>Xi (by kernel_rfl)
 a24:=fun w=>Xi (by kernel_rfl)
 z3:=fun w=>ZU (by kernel_rfl)
 z4:=fun w=>ZU (by kernel_rfl)
 z9:=fun w=>ZU (by kernel_rfl)
 z24:=fun w=>ZU (by kernel_rfl)
theorem V5: (Yj.all fun p=>Qae prog p.2)=true:=by kernel_rfl
theorem QoB:Xx prog Yj ((F.tbL.drop 0).take 24)=true:=by kernel_rfl
theorem QoC:Xx prog Yj ((F.tbL.drop 24).take 24)=true:=by kernel_rfl
theorem QoD:Xx prog Yj ((F.tbL.drop 48).take 24)=true:=by kernel_rfl
theorem QoE:Xx prog Yj ((F.tbL.drop 72).take 24)=true:=by kernel_rfl
theorem QoF:Xx prog Yj ((F.tbL.drop 96).take 24)=true:=by kernel_rfl
theorem QoG:Xx prog Yj ((F.tbL.drop 120).take 24)=true:=by kernel_rfl
theorem QoH:Xx prog Yj ((F.tbL.drop 144).take 24)=true:=by kernel_rfl
theorem QoI:Xx prog Yj ((F.tbL.drop 168).take 24)=true:=by kernel_rfl
theorem QoJ:Xx prog Yj ((F.tbL.drop 192).take 24)=true:=by kernel_rfl
theorem QoK:Xx prog Yj ((F.tbL.drop 216).take 24)=true:=by kernel_rfl
theorem Qmq:Xx prog Yj (F.tbL.drop 240)=true:=by kernel_rfl
theorem Qn8:Xx prog Yj (F.tbL.drop 216)=true:=X5 24 QoK (by rw[List.drop_drop];exact Qmq)
theorem Qn7:Xx prog Yj (F.tbL.drop 192)=true:=X5 24 QoJ (by rw[List.drop_drop];exact Qn8)
theorem Qn6:Xx prog Yj (F.tbL.drop 168)=true:=X5 24 QoI (by rw[List.drop_drop];exact Qn7)
theorem Qn5:Xx prog Yj (F.tbL.drop 144)=true:=X5 24 QoH (by rw[List.drop_drop];exact Qn6)
theorem Qn4:Xx prog Yj (F.tbL.drop 120)=true:=X5 24 QoG (by rw[List.drop_drop];exact Qn5)
theorem Qn3:Xx prog Yj (F.tbL.drop 96)=true:=X5 24 QoF (by rw[List.drop_drop];exact Qn4)
theorem Qn2:Xx prog Yj (F.tbL.drop 72)=true:=X5 24 QoE (by rw[List.drop_drop];exact Qn3)
theorem Qn1:Xx prog Yj (F.tbL.drop 48)=true:=X5 24 QoD (by rw[List.drop_drop];exact Qn2)
theorem Qn0:Xx prog Yj (F.tbL.drop 24)=true:=X5 24 QoC (by rw[List.drop_drop];exact Qn1)
theorem QnZ:Xx prog Yj (F.tbL.drop 0)=true:=X5 24 QoB (by rw[List.drop_drop];exact Qn0)
theorem QoL:Xx prog Yj F.tbL=true:=QnZ
theorem mixed:prog.follows .mixedOrders=true:=by kernel_rfl
def tbS:List (Nat×AFn):=[(30,.code F.f30),(31,.code F.f31),(32,.code F.f32),(33,.orc (XA L9))]
theorem Qnl: ∀f,S.tb f=tbS.lookup f:=fun f=>by
 unfold S.tb tbS;by_cases h0:f=30
 ·subst h0;rfl
 by_cases h1:f=31
 ·subst h1;rfl
 by_cases h2:f=32
 ·subst h2;rfl
 by_cases h3:f=33
 ·subst h3;rfl
 have e0: (f == 30)=false:=by simpa using h0
 have e1: (f == 31)=false:=by simpa using h1
 have e2: (f == 32)=false:=by simpa using h2
 have e3: (f == 33)=false:=by simpa using h3
 rw[if_neg h0,if_neg h1,if_neg h2,if_neg h3];simp[List.lookup,e0,e1,e2,e3]
section
attribute [local instance] drT
theorem Qog:JC prog num Qal S.tb:=ED [33] Qnl mixed V5 (by kernel_rfl) (by kernel_rfl) (T5 (UW S.tb_33 (show Yj.lookup 33=some 86 from rfl) (BA fun a b w=>strings_Compare a b w)) Qm0)
end
theorem QoA:JB prog num 48:=Qjh (by kernel_rfl) Qog
instance drF:Dr:=⟨False⟩
theorem hD: ¬Dr.d:=fun h=>h
theorem Qnb:Oat prog Yj (glob prog) F.tb 18:=UW F.tb_18 (show Yj.lookup 18=some 89 from rfl) (QfV fun n h0 h1 w ht=>strconv_Itoa n h0 h1 w ht)
theorem Qnc:Oat prog Yj (glob prog) F.tb 33:=UW F.tb_33 (show Yj.lookup 33=some 86 from rfl) (BA fun a b w=>strings_Compare a b w)
theorem Qj8:Oat prog Yj (glob prog) F.tb 164:=UW F.tb_164 (show Yj.lookup 164=some 216 from rfl) (QgL hD fun s c w h1 h2 h3=>Go.Proofs.Any.strings_Trim_laid lays160 (by kernel_rfl) s c w h1 h2 h3)
theorem Qj9:Oat prog Yj (glob prog) F.tb 170:=UW F.tb_170 (show Yj.lookup 170=some 47 from rfl) (QgC hD laysSortFunc rfl (fun w=>Xi (by kernel_rfl)) (fun w=>ZU (by kernel_rfl)) (QgB (Lu V5) (by kernel_rfl) QoA))
theorem Qka:Oat prog Yj (glob prog) F.tb 181:=UW F.tb_181 (show Yj.lookup 181=some 125 from rfl) (QdL hD laysGrow rfl (z:= .agg #[.int .i64 0,.string ⟨#[]⟩,.int .i64 0,.slice none 0 0]) (by kernel_rfl) (by decide) (by kernel_rfl))
theorem Qkb:Oat prog Yj (glob prog) F.tb 193:=UW F.tb_193 (show Yj.lookup 193=some 46 from rfl) (I8 mixed (Lu V5) func46 VW)
theorem Qkc:Oat prog Yj (glob prog) F.tb 194:=UW F.tb_194 (show Yj.lookup 194=some 282 from rfl) (QjY hD W2 func282)
theorem Qkd:Oat prog Yj (glob prog) F.tb 407:=UW F.tb_407 (show Yj.lookup 407=some 46 from rfl) (I8 mixed (Lu V5) func46 Ud)
theorem fits:JC prog num (glob prog) F.tb:=ED [18,33,164,170,181,193,194,407] (fun _=>rfl) mixed V5 QoL (by kernel_rfl) (T5 Qnb (T5 Qnc (T5 Qj8 (T5 Qj9 (T5 Qka (T5 Qkb (T5 Qkc (T5 Qkd (Qm0)))))))))
end Go.Am.Chk
