/-
  KnN9.
-/
import Derived.Test.YtiibekjjcelboaaGreatDoorG25
set_option linter.unusedVariables false
set_option linter.unusedSimpArgs false
namespace Go.Am
theorem Qfk:QQ F.tb Kv 400 SL.1 SL.2.1 SL.2.2.1=some (SL.2.2.2.1,SL.2.2.2.2):=by kernel_rfl
theorem Qfl:QQ F.tb Kw 400 SM.1 SM.2.1 SM.2.2.1=some (SM.2.2.2.1,SM.2.2.2.2):=by kernel_rfl
theorem Qfm:QQ F.tb Kx 400 SN.1 SN.2.1 SN.2.2.1=some (SN.2.2.2.1,SN.2.2.2.2):=by kernel_rfl
theorem Qfn:QQ F.tb Ky 400 SO.1 SO.2.1 SO.2.2.1=some (SO.2.2.2.1,SO.2.2.2.2):=by kernel_rfl
end Go.Am
