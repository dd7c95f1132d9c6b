/-
  ScM11.
-/
import Derived.Test.YtpgbndmkiiakaaaGreatDoorG26
set_option linter.unusedVariables false
set_option linter.unusedSimpArgs false
namespace Go.Am
theorem QjC:Qn F.tb HE 400 PB.1 PB.2.1 PB.2.2.1=some (PB.2.2.2.1,PB.2.2.2.2):=by kernel_rfl
theorem QjD:Qn F.tb HF 400 PC.1 PC.2.1 PC.2.2.1=some (PC.2.2.2.1,PC.2.2.2.2):=by kernel_rfl
theorem QjE:Qn F.tb HG 400 PD.1 PD.2.1 PD.2.2.1=some (PD.2.2.2.1,PD.2.2.2.2):=by kernel_rfl
theorem QjF:Qn F.tb HH 400 PE.1 PE.2.1 PE.2.2.1=some (PE.2.2.2.1,PE.2.2.2.2):=by kernel_rfl
theorem QjG:Qn F.tb HI 400 PF.1 PF.2.1 PF.2.2.1=some (PF.2.2.2.1,PF.2.2.2.2):=by kernel_rfl
theorem QjH:Qn F.tb HJ 400 PG.1 PG.2.1 PG.2.2.1=some (PG.2.2.2.1,PG.2.2.2.2):=by kernel_rfl
theorem QjI:Qn F.tb HK 400 PH.1 PH.2.1 PH.2.2.1=some (PH.2.2.2.1,PH.2.2.2.2):=by kernel_rfl
theorem QjJ:Qn F.tb HL 400 PI.1 PI.2.1 PI.2.2.1=some (PI.2.2.2.1,PI.2.2.2.2):=by kernel_rfl
end Go.Am
