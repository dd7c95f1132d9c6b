/-
  ScM16.
-/
import Derived.Test.YtpgbndmkiiakaaaGreatDoorG26
set_option linter.unusedVariables false
set_option linter.unusedSimpArgs false
namespace Go.Am
theorem Qfm:Qn F.tb Ku 400 TV.1 TV.2.1 TV.2.2.1=some (TV.2.2.2.1,TV.2.2.2.2):=by kernel_rfl
theorem Qfn:Qn F.tb Kv 400 TW.1 TW.2.1 TW.2.2.1=some (TW.2.2.2.1,TW.2.2.2.2):=by kernel_rfl
theorem Qfo:Qn F.tb Kw 400 TX.1 TX.2.1 TX.2.2.1=some (TX.2.2.2.1,TX.2.2.2.2):=by kernel_rfl
theorem Qfp:Qn F.tb Kx 400 TY.1 TY.2.1 TY.2.2.1=some (TY.2.2.2.1,TY.2.2.2.2):=by kernel_rfl
theorem Qfq:Qn F.tb Ky 400 TZ.1 TZ.2.1 TZ.2.2.1=some (TZ.2.2.2.1,TZ.2.2.2.2):=by kernel_rfl
theorem Qfr:Qn F.tb Kz 400 T0.1 T0.2.1 T0.2.2.1=some (T0.2.2.2.1,T0.2.2.2.2):=by kernel_rfl
theorem Qfs:Qn F.tb KA 400 T1.1 T1.2.1 T1.2.2.1=some (T1.2.2.2.1,T1.2.2.2.2):=by kernel_rfl
theorem Qft:Qn F.tb KB 400 T2.1 T2.2.1 T2.2.2.1=some (T2.2.2.2.1,T2.2.2.2.2):=by kernel_rfl
end Go.Am
