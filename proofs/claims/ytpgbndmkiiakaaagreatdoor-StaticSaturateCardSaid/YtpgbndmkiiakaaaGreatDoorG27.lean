/-
  ScM0.
-/
import Derived.Test.YtpgbndmkiiakaaaGreatDoorG26
set_option linter.unusedVariables false
set_option linter.unusedSimpArgs false
namespace Go.Am
theorem Qk7:Qn F.tb Ck 400 NI.1 NI.2.1 NI.2.2.1=some (NI.2.2.2.1,NI.2.2.2.2):=by kernel_rfl
theorem Qk8:Qn F.tb Cl 400 NJ.1 NJ.2.1 NJ.2.2.1=some (NJ.2.2.2.1,NJ.2.2.2.2):=by kernel_rfl
theorem Qk9:Qn F.tb Cm 400 NK.1 NK.2.1 NK.2.2.1=some (NK.2.2.2.1,NK.2.2.2.2):=by kernel_rfl
theorem Qla:Qn F.tb Cn 400 NL.1 NL.2.1 NL.2.2.1=some (NL.2.2.2.1,NL.2.2.2.2):=by kernel_rfl
theorem Qlb:Qn F.tb Co 400 NM.1 NM.2.1 NM.2.2.1=some (NM.2.2.2.1,NM.2.2.2.2):=by kernel_rfl
theorem Qlc:Qn F.tb Cp 400 NN.1 NN.2.1 NN.2.2.1=some (NN.2.2.2.1,NN.2.2.2.2):=by kernel_rfl
theorem Qld:Qn F.tb Cq 400 NO.1 NO.2.1 NO.2.2.1=some (NO.2.2.2.1,NO.2.2.2.2):=by kernel_rfl
theorem Qle:Qn F.tb Cr 400 NP.1 NP.2.1 NP.2.2.1=some (NP.2.2.2.1,NP.2.2.2.2):=by kernel_rfl
end Go.Am
