/-
  KnN10.
-/
import Derived.Test.YtiibekjjcelboaaGreatDoorG25
set_option linter.unusedVariables false
set_option linter.unusedSimpArgs false
namespace Go.Am
theorem Qfo:QQ F.tb Kz 400 SP.1 SP.2.1 SP.2.2.1=some (SP.2.2.2.1,SP.2.2.2.2):=by kernel_rfl
theorem Qfp:QQ F.tb KA 400 SQ.1 SQ.2.1 SQ.2.2.1=some (SQ.2.2.2.1,SQ.2.2.2.2):=by kernel_rfl
theorem Qfq:QQ F.tb KB 400 SR.1 SR.2.1 SR.2.2.1=some (SR.2.2.2.1,SR.2.2.2.2):=by kernel_rfl
theorem Qfr:QQ F.tb KC 400 SS.1 SS.2.1 SS.2.2.1=some (SS.2.2.2.1,SS.2.2.2.2):=by kernel_rfl
end Go.Am
