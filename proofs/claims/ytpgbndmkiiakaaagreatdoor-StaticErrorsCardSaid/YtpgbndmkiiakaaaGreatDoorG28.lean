/-
  ScM0.
-/
import Derived.Test.YtpgbndmkiiakaaaGreatDoorG27
set_option linter.unusedVariables false
set_option linter.unusedSimpArgs false
namespace Go.Am
theorem QnO:Qn F.tb Ay 400 M8.1 M8.2.1 M8.2.2.1=some (M8.2.2.2.1,M8.2.2.2.2):=by kernel_rfl
theorem QnP:Qn F.tb Az 400 M9.1 M9.2.1 M9.2.2.1=some (M9.2.2.2.1,M9.2.2.2.2):=by kernel_rfl
theorem QnQ:Qn F.tb AA 400 La.1 La.2.1 La.2.2.1=some (La.2.2.2.1,La.2.2.2.2):=by kernel_rfl
theorem QnR:Qn F.tb AB 400 Lb.1 Lb.2.1 Lb.2.2.1=some (Lb.2.2.2.1,Lb.2.2.2.2):=by kernel_rfl
theorem QnS:Qn F.tb AD 400 Lc.1 Lc.2.1 Lc.2.2.1=some (Lc.2.2.2.1,Lc.2.2.2.2):=by kernel_rfl
theorem QnT:Qn F.tb AE 400 Ld.1 Ld.2.1 Ld.2.2.1=some (Ld.2.2.2.1,Ld.2.2.2.2):=by kernel_rfl
theorem QnU:Qn F.tb AF 400 Lf.1 Lf.2.1 Lf.2.2.1=some (Lf.2.2.2.1,Lf.2.2.2.2):=by kernel_rfl
theorem QnV:Qn F.tb AG 400 Lg.1 Lg.2.1 Lg.2.2.1=some (Lg.2.2.2.1,Lg.2.2.2.2):=by kernel_rfl
end Go.Am
