/-
  ScM0.
-/
import Derived.Test.YtpgbndmkiiakaaaGreatDoorG24
set_option linter.unusedVariables false
set_option linter.unusedSimpArgs false
namespace Go.Am
theorem QiN:Ql F.tb ER 400 Ox.1 Ox.2.1 Ox.2.2.1=some (Ox.2.2.2.1,Ox.2.2.2.2):=by kernel_rfl
theorem QiO:Ql F.tb ES 400 Oy.1 Oy.2.1 Oy.2.2.1=some (Oy.2.2.2.1,Oy.2.2.2.2):=by kernel_rfl
theorem QiP:Ql F.tb ET 400 Oz.1 Oz.2.1 Oz.2.2.1=some (Oz.2.2.2.1,Oz.2.2.2.2):=by kernel_rfl
theorem QiQ:Ql F.tb EU 400 OA.1 OA.2.1 OA.2.2.1=some (OA.2.2.2.1,OA.2.2.2.2):=by kernel_rfl
theorem QiR:Ql F.tb EV 400 OB.1 OB.2.1 OB.2.2.1=some (OB.2.2.2.1,OB.2.2.2.2):=by kernel_rfl
theorem QiS:Ql F.tb EW 400 OC.1 OC.2.1 OC.2.2.1=some (OC.2.2.2.1,OC.2.2.2.2):=by kernel_rfl
theorem QiT:Ql F.tb EX 400 OD.1 OD.2.1 OD.2.2.1=some (OD.2.2.2.1,OD.2.2.2.2):=by kernel_rfl
theorem QiU:Ql F.tb EY 400 OE.1 OE.2.1 OE.2.2.1=some (OE.2.2.2.1,OE.2.2.2.2):=by kernel_rfl
end Go.Am
