/-
  KnN11.
-/
import Derived.Test.YtiibekjjcelboaaGreatDoorG25
set_option linter.unusedVariables false
set_option linter.unusedSimpArgs false
namespace Go.Am
theorem Qfs:QQ F.tb KD 400 ST.1 ST.2.1 ST.2.2.1=some (ST.2.2.2.1,ST.2.2.2.2):=by kernel_rfl
theorem Qft:QQ F.tb KE 400 SU.1 SU.2.1 SU.2.2.1=some (SU.2.2.2.1,SU.2.2.2.2):=by kernel_rfl
theorem Qfu:QQ F.tb KF 400 SV.1 SV.2.1 SV.2.2.1=some (SV.2.2.2.1,SV.2.2.2.2):=by kernel_rfl
theorem Qfv:QQ F.tb KH 400 SW.1 SW.2.1 SW.2.2.1=some (SW.2.2.2.1,SW.2.2.2.2):=by kernel_rfl
end Go.Am
