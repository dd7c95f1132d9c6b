/-
  ScM4.
-/
import Derived.Test.YtpgbndmkiiakaaaGreatDoorG27
set_option linter.unusedVariables false
set_option linter.unusedSimpArgs false
namespace Go.Am
theorem Qlg:Qn F.tb GD 400 PE.1 PE.2.1 PE.2.2.1=some (PE.2.2.2.1,PE.2.2.2.2):=by kernel_rfl
theorem Qlh:Qn F.tb GE 400 PF.1 PF.2.1 PF.2.2.1=some (PF.2.2.2.1,PF.2.2.2.2):=by kernel_rfl
theorem Qli:Qn F.tb GF 400 PG.1 PG.2.1 PG.2.2.1=some (PG.2.2.2.1,PG.2.2.2.2):=by kernel_rfl
theorem Qlj:Qn F.tb GG 400 PH.1 PH.2.1 PH.2.2.1=some (PH.2.2.2.1,PH.2.2.2.2):=by kernel_rfl
theorem Qlk:Qn F.tb GH 400 PI.1 PI.2.1 PI.2.2.1=some (PI.2.2.2.1,PI.2.2.2.2):=by kernel_rfl
theorem Qll:Qn F.tb GI 400 PJ.1 PJ.2.1 PJ.2.2.1=some (PJ.2.2.2.1,PJ.2.2.2.2):=by kernel_rfl
theorem Qlm:Qn F.tb GJ 400 PL.1 PL.2.1 PL.2.2.1=some (PL.2.2.2.1,PL.2.2.2.2):=by kernel_rfl
theorem Qln:Qn F.tb GK 400 PM.1 PM.2.1 PM.2.2.1=some (PM.2.2.2.1,PM.2.2.2.2):=by kernel_rfl
end Go.Am
