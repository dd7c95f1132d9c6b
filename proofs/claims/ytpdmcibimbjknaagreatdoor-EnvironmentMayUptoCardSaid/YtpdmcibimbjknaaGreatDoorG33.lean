/-
  EnM7.
-/
import Derived.Test.YtpdmcibimbjknaaGreatDoorG25
set_option linter.unusedVariables false
set_option linter.unusedSimpArgs false
namespace Go.Am
theorem QfS:Qs F.tb Jm 400 S3.1 S3.2.1 S3.2.2.1=some (S3.2.2.2.1,S3.2.2.2.2):=by kernel_rfl
theorem QfT:Qs F.tb Jn 400 S4.1 S4.2.1 S4.2.2.1=some (S4.2.2.2.1,S4.2.2.2.2):=by kernel_rfl
theorem QfU:Qs F.tb Jo 400 S5.1 S5.2.1 S5.2.2.1=some (S5.2.2.2.1,S5.2.2.2.2):=by kernel_rfl
theorem QfV:Qs F.tb Jp 400 S6.1 S6.2.1 S6.2.2.1=some (S6.2.2.2.1,S6.2.2.2.2):=by kernel_rfl
theorem QfW:Qs F.tb Jq 400 S7.1 S7.2.1 S7.2.2.1=some (S7.2.2.2.1,S7.2.2.2.2):=by kernel_rfl
theorem QfX:Qs F.tb Jr 400 S8.1 S8.2.1 S8.2.2.1=some (S8.2.2.2.1,S8.2.2.2.2):=by kernel_rfl
theorem QfY:Qs F.tb Js 400 S9.1 S9.2.1 S9.2.2.1=some (S9.2.2.2.1,S9.2.2.2.2):=by kernel_rfl
theorem QfZ:Qs F.tb Jt 400 Ra.1 Ra.2.1 Ra.2.2.1=some (Ra.2.2.2.1,Ra.2.2.2.2):=by kernel_rfl
end Go.Am
