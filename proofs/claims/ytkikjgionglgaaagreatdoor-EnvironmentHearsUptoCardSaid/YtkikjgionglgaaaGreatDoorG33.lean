/-
  EnM9.
-/
import Derived.Test.YtkikjgionglgaaaGreatDoorG23
set_option linter.unusedVariables false
set_option linter.unusedSimpArgs false
namespace Go.Am
theorem Qel:Qq F.tb KJ 400 SM.1 SM.2.1 SM.2.2.1=some (SM.2.2.2.1,SM.2.2.2.2):=by kernel_rfl
theorem Qem:Qq F.tb KL 400 SN.1 SN.2.1 SN.2.2.1=some (SN.2.2.2.1,SN.2.2.2.2):=by kernel_rfl
theorem Qen:Qq F.tb KN 400 SO.1 SO.2.1 SO.2.2.1=some (SO.2.2.2.1,SO.2.2.2.2):=by kernel_rfl
theorem Qeo:Qq F.tb KO 400 SP.1 SP.2.1 SP.2.2.1=some (SP.2.2.2.1,SP.2.2.2.2):=by kernel_rfl
theorem Qep:Qq F.tb KP 400 SQ.1 SQ.2.1 SQ.2.2.1=some (SQ.2.2.2.1,SQ.2.2.2.2):=by kernel_rfl
theorem Qeq:Qq F.tb KQ 400 SR.1 SR.2.1 SR.2.2.1=some (SR.2.2.2.1,SR.2.2.2.2):=by kernel_rfl
theorem Qer:Qq F.tb KR 400 SS.1 SS.2.1 SS.2.2.1=some (SS.2.2.2.1,SS.2.2.2.2):=by kernel_rfl
theorem Qes:Qq F.tb KS 400 ST.1 ST.2.1 ST.2.2.1=some (ST.2.2.2.1,ST.2.2.2.2):=by kernel_rfl
end Go.Am
