/-
  AmCheck.
-/
import Derived.Test.YtkijgpjgngncpaaGreatDoorG28
import Derived.Test.YtkijgpjgngncpaaGreatDoorG14
import Derived.Test.YtkijgpjgngncpaaGreatDoorG09
import Derived.Test.YtkijgpjgngncpaaGreatDoorG10
import Derived.Test.YtkijgpjgngncpaaGreatDoorG29
import Derived.WalkKit
import Derived.Test.YtkijgpjgngncpaaGreatDoorShelf
import Derived.Test.YtkijgpjgngncpaaGreatDoorProg
set_option linter.all false
namespace Go.Am.Chk
open Go.Proofs.Tryz
set_option maxRecDepth 20000
def Q0:List (Nat×Nat):=[(1,4),(2,10),(3,24),(4,28),(5,31),(6,67),(7,118),(8,174),(9,221),(10,64),(16,25),(17,26),(18,65),(25,11),(26,27),(27,19),(28,51),(29,80),(30,58),(31,106),(32,105),(33,107),(36,52),(37,66),(38,29),(39,32),(40,30),(41,68),(42,119),(43,175),(44,222),(45,261),(46,69),(47,120),(48,138),(49,70),(50,33),(51,71),(52,72),(53,12),(54,34),(55,73),(56,121),(57,88),(58,125),(59,126),(60,74),(61,75),(62,35),(63,76),(64,13),(65,33),(66,71),(67,14),(68,36),(69,77),(70,122),(71,176),(72,123),(73,152),(74,195),(75,236),(76,177),(79,79),(80,78),(81,86),(82,37),(83,38),(84,82),(85,81),(86,33),(87,72),(89,15),(90,40),(91,85),(92,16),(93,33),(94,42),(96,44),(99,6),(103,17),(104,45),(105,46),(106,90),(107,89),(109,127),(110,179),(115,47),(116,91),(117,92),(118,93),(119,129),(120,128),(121,49),(122,50),(124,48),(125,94),(126,130),(127,180),(128,225),(129,267),(130,226),(131,227),(132,131),(133,132),(134,133),(135,134),(137,5),(138,18),(141,39),(142,41),(143,86),(144,43),(145,87),(159,108),(160,101),(161,139),(162,186),(163,153),(164,196),(165,135),(166,181),(167,228),(168,97),(169,99),(170,57),(171,137),(172,59),(173,136),(174,182),(175,229),(176,268),(177,183),(178,269),(179,199),(180,53),(181,95),(182,201),(183,244),(184,200),(185,243),(186,102),(187,140),(188,187),(189,188),(190,231),(191,230),(192,233),(193,7),(194,232),(195,234),(196,270),(197,207),(198,287),(199,271),(200,164),(201,208),(202,209),(203,250),(204,249),(205,278),(206,185),(207,184),(214,154),(215,197),(250,9),(363,165),(372,292),(373,291),(375,299),(378,277),(407,7),(418,159),(497,59),(511,55),(512,98),(517,8),(518,20),(519,54),(520,96),(521,56),(522,100),(523,62),(524,63),(525,115),(526,114),(527,21),(528,60),(529,22),(530,23),(531,61),(532,109),(533,155),(534,110),(535,157),(536,158),(537,156),(538,198),(539,111),(540,160),(541,161),(542,202),(543,245),(544,204),(545,248),(546,277),(547,246),(548,203),(549,206),(550,247),(551,205),(552,112),(553,162),(554,163),(555,166),(556,210),(557,252),(558,253),(559,251),(560,211),(561,254),(562,279),(563,293),(564,294),(565,300),(566,295),(567,280),(568,113),(734,3)]
def num:Nat→Option Nat:=fun f=>Q0.lookup f
theorem Vn:Wl prog num false 72 6 f71=true:=by kernel_rfl
theorem VD:Wl prog num false 16 2 f72=true:=by kernel_rfl
theorem W4:Wl prog num true 72 6 f71=true:=by kernel_rfl
theorem Vq:Wl prog num true 16 2 f72=true:=by kernel_rfl
theorem Vp:Wl prog num true 56 4 f7=true:=by kernel_rfl
theorem Vo:Wl prog num false 24 1 f292=true:=by kernel_rfl
theorem VC:Wl prog num false 56 4 f7=true:=by kernel_rfl
theorem WG:Wl prog num true 56 4 f115=true:=by kernel_rfl
theorem W5:Wl prog num true 64 5 f252=true:=by kernel_rfl
theorem Dz:prog.follows .mixedOrders=true:=by kernel_rfl
def Rr:Go.Shelf.Ren:=⟨fun n=>match n with | 29=>83 | 30=>84 | 22=>39 | n=>n,fun n=>match n with | 24=>25 | 9=>82 | 3=>3 | 4=>4 | 0=>0 | n=>n,fun n=>n⟩
theorem W6:Vz prog Rr f39 2 16 (.agg #[.int .i64 0,.int .i64 0]) where
 mixed:=Dz
 body:=by kernel_rfl
 ntmps:=by kernel_rfl
 res:=by kernel_rfl
 f29:=fun args w=>run_callFunc_extern (f:=Rr.f 29) (fn:=f83) func83 (by kernel_rfl) (by kernel_rfl) (by kernel_rfl) (e:=Extern.SlicesOverlaps.overlaps #[Rr.t 24,Rr.t 24] #[Rr.t 4]) (by kernel_rfl) args w
 t0:=by kernel_rfl
 t3:=by kernel_rfl
 t4:=by kernel_rfl
 t24:=by kernel_rfl
 i9:=by kernel_rfl
 zc:=by kernel_rfl
 a3:=fun w=>ZF (by kernel_rfl)
 a4:=fun w=>ZF (by kernel_rfl)
 a24:=fun w=>ZF (by kernel_rfl)
 z3:=fun w=>QV (by kernel_rfl)
 z4:=fun w=>QV (by kernel_rfl)
 z9:=fun w=>QV (by kernel_rfl)
 z24:=fun w=>QV (by kernel_rfl)
def Rs:Go.Shelf.Ren:=⟨fun n=>match n with | 29=>272 | 30=>273 | 22=>232 | n=>n,fun n=>match n with | 24=>120 | 9=>124 | 3=>3 | 4=>4 | 0=>0 | n=>n,fun n=>n⟩
theorem Wr:Vz prog Rs f232 5 64 (.agg #[.int .i64 0,.string ⟨#[]⟩,.int .i64 0,.slice none 0 0,.int .i64 0]) where
 mixed:=Dz
 body:=by kernel_rfl
 ntmps:=by kernel_rfl
 res:=by kernel_rfl
 f29:=fun args w=>run_callFunc_extern (f:=Rs.f 29) (fn:=f272) func272 (by kernel_rfl) (by kernel_rfl) (by kernel_rfl) (e:=Extern.SlicesOverlaps.overlaps #[Rs.t 24,Rs.t 24] #[Rs.t 4]) (by kernel_rfl) args w
 t0:=by kernel_rfl
 t3:=by kernel_rfl
 t4:=by kernel_rfl
 t24:=by kernel_rfl
 i9:=by kernel_rfl
 zc:=by kernel_rfl
 a3:=fun w=>ZF (by kernel_rfl)
 a4:=fun w=>ZF (by kernel_rfl)
 a24:=fun w=>ZF (by kernel_rfl)
 z3:=fun w=>QV (by kernel_rfl)
 z4:=fun w=>QV (by kernel_rfl)
 z9:=fun w=>QV (by kernel_rfl)
 z24:=fun w=>QV (by kernel_rfl)
theorem TE: (Q0.all fun p=>GV prog p.2)=true:=by kernel_rfl
theorem Qf1:Y8 prog Q0 ((F.tbL.drop 0).take 24)=true:=by kernel_rfl
theorem Qf2:Y8 prog Q0 ((F.tbL.drop 24).take 24)=true:=by kernel_rfl
theorem Qf3:Y8 prog Q0 ((F.tbL.drop 48).take 24)=true:=by kernel_rfl
theorem Qf4:Y8 prog Q0 ((F.tbL.drop 72).take 24)=true:=by kernel_rfl
theorem Qf5:Y8 prog Q0 ((F.tbL.drop 96).take 24)=true:=by kernel_rfl
theorem Qf6:Y8 prog Q0 ((F.tbL.drop 120).take 24)=true:=by kernel_rfl
theorem Qf7:Y8 prog Q0 ((F.tbL.drop 144).take 24)=true:=by kernel_rfl
theorem Qf8:Y8 prog Q0 ((F.tbL.drop 168).take 24)=true:=by kernel_rfl
theorem Qf9:Y8 prog Q0 ((F.tbL.drop 192).take 24)=true:=by kernel_rfl
theorem Qga:Y8 prog Q0 ((F.tbL.drop 216).take 24)=true:=by kernel_rfl
theorem QdP:Y8 prog Q0 (F.tbL.drop 240)=true:=by kernel_rfl
theorem Qfj:Y8 prog Q0 (F.tbL.drop 216)=true:=XB 24 Qga (by rw[List.drop_drop];exact QdP)
theorem Qfi:Y8 prog Q0 (F.tbL.drop 192)=true:=XB 24 Qf9 (by rw[List.drop_drop];exact Qfj)
theorem Qfh:Y8 prog Q0 (F.tbL.drop 168)=true:=XB 24 Qf8 (by rw[List.drop_drop];exact Qfi)
theorem Qfg:Y8 prog Q0 (F.tbL.drop 144)=true:=XB 24 Qf7 (by rw[List.drop_drop];exact Qfh)
theorem Qff:Y8 prog Q0 (F.tbL.drop 120)=true:=XB 24 Qf6 (by rw[List.drop_drop];exact Qfg)
theorem Qfe:Y8 prog Q0 (F.tbL.drop 96)=true:=XB 24 Qf5 (by rw[List.drop_drop];exact Qff)
theorem Qfd:Y8 prog Q0 (F.tbL.drop 72)=true:=XB 24 Qf4 (by rw[List.drop_drop];exact Qfe)
theorem Qfc:Y8 prog Q0 (F.tbL.drop 48)=true:=XB 24 Qf3 (by rw[List.drop_drop];exact Qfd)
theorem Qfb:Y8 prog Q0 (F.tbL.drop 24)=true:=XB 24 Qf2 (by rw[List.drop_drop];exact Qfc)
theorem Qfa:Y8 prog Q0 (F.tbL.drop 0)=true:=XB 24 Qf1 (by rw[List.drop_drop];exact Qfb)
theorem Qgb:Y8 prog Q0 F.tbL=true:=Qfa
theorem mixed:prog.follows .mixedOrders=true:=by kernel_rfl
def tbS:List (Nat×AFn):=[(30,.code F.f30),(31,.code F.f31),(32,.code F.f32),(33,.orc (Z2 O5))]
theorem QeW: ∀f,S.tb f=tbS.lookup f:=fun f=>by
 unfold S.tb tbS;by_cases h0:f=30
 ·subst h0;rfl
 by_cases h1:f=31
 ·subst h1;rfl
 by_cases h2:f=32
 ·subst h2;rfl
 by_cases h3:f=33
 ·subst h3;rfl
 have e0: (f == 30)=false:=by simpa using h0
 have e1: (f == 31)=false:=by simpa using h1
 have e2: (f == 32)=false:=by simpa using h2
 have e3: (f == 33)=false:=by simpa using h3
 rw[if_neg h0,if_neg h1,if_neg h2,if_neg h3];simp[List.lookup,e0,e1,e2,e3]
section
attribute [local instance] drT
theorem Qft:Mr prog num G2 S.tb:=Jn [33] QeW mixed TE (by kernel_rfl) (by kernel_rfl) (Xj (YG S.tb_33 (show Q0.lookup 33=some 107 from rfl) (HF fun a b w=>strings_Compare a b w)) Qep)
end
theorem Qf0:Mq prog num 58:=QbS (by kernel_rfl) Qft
instance drF:Dr:=⟨False⟩
theorem hD: ¬Dr.d:=fun h=>h
theorem H0 {α:Type} {o:Option α} (h:o.isSome=true):o≠none:=fun e=>by rw[e]at h;cases h
theorem Qev:Oat prog Q0 (glob prog) F.tb 10:=YG F.tb_10 (show Q0.lookup 10=some 64 from rfl) (Qa5 hD fun s c w h1 h2 h3 h4=>strings_ContainsAny_laid s c w h1 h2 h3 h4)
theorem Qew:Oat prog Q0 (glob prog) F.tb 18:=YG F.tb_18 (show Q0.lookup 18=some 65 from rfl) (Ah fun n h0 h1 w ht=>strconv_Itoa n h0 h1 w ht)
theorem Qex:Oat prog Q0 (glob prog) F.tb 33:=YG F.tb_33 (show Q0.lookup 33=some 107 from rfl) (HF fun a b w=>strings_Compare a b w)
theorem Qey:Oat prog Q0 (glob prog) F.tb 51:=YG F.tb_51 (show Q0.lookup 51=some 71 from rfl) (X0 mixed (Wk TE) func71 Vn)
theorem Qez:Oat prog Q0 (glob prog) F.tb 52:=YG F.tb_52 (show Q0.lookup 52=some 72 from rfl) (X0 mixed (Wk TE) func72 VD)
theorem QeA:Oat prog Q0 (glob prog) F.tb 66:=YG F.tb_66 (show Q0.lookup 66=some 71 from rfl) (X0 mixed (Wk TE) func71 W4)
theorem QeB:Oat prog Q0 (glob prog) F.tb 76:=YG F.tb_76 (show Q0.lookup 76=some 177 from rfl) (CX hD (H0 (by kernel_rfl)) (H0 (by kernel_rfl)) (fun s hs v hv w=>(strconv_Atoi_ok s hs v hv w).mono fun e w2 h=>by obtain⟨h1,h2⟩:=h;refine⟨h1,?_⟩;rcases h2 with rfl | ⟨t,rfl⟩;exact Go.RowKit.Below.refl _ _;exact Lib.bytesWorld_below _ _ _) (fun s hs hv tp p w hvar=>(strconv_Atoi_syntax_var s hs hv tp p w hvar).mono fun e w2 h=>by obtain⟨N,h1,_,_,h4⟩:=h;exact⟨_,_,h1,h4⟩) (fun s hs hv tp p w hvar=>(strconv_Atoi_range_var s hs hv tp p w hvar).mono fun e w2 h=>by obtain⟨N,h1,_,_,h4⟩:=h;exact⟨_,_,h1,h4⟩))
theorem QeC:Oat prog Q0 (glob prog) F.tb 87:=YG F.tb_87 (show Q0.lookup 87=some 72 from rfl) (X0 mixed (Wk TE) func72 Vq)
theorem QcD:Oat prog Q0 (glob prog) F.tb 141:=YG F.tb_141 (show Q0.lookup 141=some 39 from rfl) (MM hD (W6.con func39 (by decide)))
theorem QcE:Oat prog Q0 (glob prog) F.tb 164:=YG F.tb_164 (show Q0.lookup 164=some 196 from rfl) (Qax hD fun s c w h1 h2 h3=>Go.Proofs.Any.strings_Trim_laid lays160 (by kernel_rfl) s c w h1 h2 h3)
theorem QcF:Oat prog Q0 (glob prog) F.tb 170:=YG F.tb_170 (show Q0.lookup 170=some 57 from rfl) (Qam hD laysSortFunc rfl (fun w=>ZF (by kernel_rfl)) (fun w=>QV (by kernel_rfl)) (Qal (Wk TE) (by kernel_rfl) Qf0))
theorem QcG:Oat prog Q0 (glob prog) F.tb 181:=YG F.tb_181 (show Q0.lookup 181=some 95 from rfl) (Dj hD laysGrow rfl (z:= .agg #[.int .i64 0,.string ⟨#[]⟩,.int .i64 0,.slice none 0 0]) (by kernel_rfl) (by decide) (by kernel_rfl))
theorem QcH:Oat prog Q0 (glob prog) F.tb 193:=YG F.tb_193 (show Q0.lookup 193=some 7 from rfl) (X0 mixed (Wk TE) func7 Vp)
theorem QcI:Oat prog Q0 (glob prog) F.tb 194:=YG F.tb_194 (show Q0.lookup 194=some 232 from rfl) (MM hD (Wr.con func232 (by decide)))
theorem QcJ:Oat prog Q0 (glob prog) F.tb 372:=YG F.tb_372 (show Q0.lookup 372=some 292 from rfl) (X0 mixed (Wk TE) func292 Vo)
theorem QcK:Oat prog Q0 (glob prog) F.tb 407:=YG F.tb_407 (show Q0.lookup 407=some 7 from rfl) (X0 mixed (Wk TE) func7 VC)
theorem QcL:Oat prog Q0 (glob prog) F.tb 525:=YG F.tb_525 (show Q0.lookup 525=some 115 from rfl) (X0 mixed (Wk TE) func115 WG)
theorem QcM:Oat prog Q0 (glob prog) F.tb 526:=YG F.tb_526 (show Q0.lookup 526=some 114 from rfl) (MM hD Qeq)
theorem QcN:Oat prog Q0 (glob prog) F.tb 557:=YG F.tb_557 (show Q0.lookup 557=some 252 from rfl) (X0 mixed (Wk TE) func252 W5)
theorem fits:Mr prog num (glob prog) F.tb:=Jn [10,18,33,51,52,66,76,87,141,164,170,181,193,194,372,407,525,526,557] (fun _=>rfl) mixed TE Qgb (by kernel_rfl) (Xj Qev (Xj Qew (Xj Qex (Xj Qey (Xj Qez (Xj QeA (Xj QeB (Xj QeC (Xj QcD (Xj QcE (Xj QcF (Xj QcG (Xj QcH (Xj QcI (Xj QcJ (Xj QcK (Xj QcL (Xj QcM (Xj QcN (Qep))))))))))))))))))))
end Go.Am.Chk
