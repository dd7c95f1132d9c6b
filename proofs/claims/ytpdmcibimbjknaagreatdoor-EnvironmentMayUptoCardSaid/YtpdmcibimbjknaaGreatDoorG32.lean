/-
  EnM6.
-/
import Derived.Test.YtpdmcibimbjknaaGreatDoorG25
set_option linter.unusedVariables false
set_option linter.unusedSimpArgs false
namespace Go.Am
theorem QfK:Qs F.tb Je 400 SV.1 SV.2.1 SV.2.2.1=some (SV.2.2.2.1,SV.2.2.2.2):=by kernel_rfl
theorem QfL:Qs F.tb Jf 400 SW.1 SW.2.1 SW.2.2.1=some (SW.2.2.2.1,SW.2.2.2.2):=by kernel_rfl
theorem QfM:Qs F.tb Jg 400 SX.1 SX.2.1 SX.2.2.1=some (SX.2.2.2.1,SX.2.2.2.2):=by kernel_rfl
theorem QfN:Qs F.tb Jh 400 SY.1 SY.2.1 SY.2.2.1=some (SY.2.2.2.1,SY.2.2.2.2):=by kernel_rfl
theorem QfO:Qs F.tb Ji 400 SZ.1 SZ.2.1 SZ.2.2.1=some (SZ.2.2.2.1,SZ.2.2.2.2):=by kernel_rfl
theorem QfP:Qs F.tb Jj 400 S0.1 S0.2.1 S0.2.2.1=some (S0.2.2.2.1,S0.2.2.2.2):=by kernel_rfl
theorem QfQ:Qs F.tb Jk 400 S1.1 S1.2.1 S1.2.2.1=some (S1.2.2.2.1,S1.2.2.2.2):=by kernel_rfl
theorem QfR:Qs F.tb Jl 400 S2.1 S2.2.1 S2.2.2.1=some (S2.2.2.2.1,S2.2.2.2.2):=by kernel_rfl
end Go.Am
