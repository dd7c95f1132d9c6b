/-
  ScM15.
-/
import Derived.Test.YtpgbndmkiiakaaaGreatDoorG24
set_option linter.unusedVariables false
set_option linter.unusedSimpArgs false
namespace Go.Am
theorem QdB:Ql F.tb Lj 400 UW.1 UW.2.1 UW.2.2.1=some (UW.2.2.2.1,UW.2.2.2.2):=by kernel_rfl
theorem QdC:Ql F.tb Lk 400 UX.1 UX.2.1 UX.2.2.1=some (UX.2.2.2.1,UX.2.2.2.2):=by kernel_rfl
theorem QdD:Ql F.tb Ll 400 UY.1 UY.2.1 UY.2.2.1=some (UY.2.2.2.1,UY.2.2.2.2):=by kernel_rfl
theorem QdE:Ql F.tb Lm 400 UZ.1 UZ.2.1 UZ.2.2.1=some (UZ.2.2.2.1,UZ.2.2.2.2):=by kernel_rfl
theorem QdF:Ql F.tb Ln 400 U0.1 U0.2.1 U0.2.2.1=some (U0.2.2.2.1,U0.2.2.2.2):=by kernel_rfl
theorem QdG:Ql F.tb Lo 400 U1.1 U1.2.1 U1.2.2.1=some (U1.2.2.2.1,U1.2.2.2.2):=by kernel_rfl
theorem QdH:Ql F.tb Lp 400 U2.1 U2.2.1 U2.2.2.1=some (U2.2.2.2.1,U2.2.2.2.2):=by kernel_rfl
theorem QdI:Ql F.tb Lq 400 U3.1 U3.2.1 U3.2.2.1=some (U3.2.2.2.1,U3.2.2.2.2):=by kernel_rfl
end Go.Am
