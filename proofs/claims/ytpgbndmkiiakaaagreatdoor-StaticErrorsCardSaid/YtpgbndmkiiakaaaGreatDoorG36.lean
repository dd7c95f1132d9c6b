/-
  ScM8.
-/
import Derived.Test.YtpgbndmkiiakaaaGreatDoorG27
set_option linter.unusedVariables false
set_option linter.unusedSimpArgs false
namespace Go.Am
theorem QlM:Qn F.tb Fa 400 Oc.1 Oc.2.1 Oc.2.2.1=some (Oc.2.2.2.1,Oc.2.2.2.2):=by kernel_rfl
theorem QlN:Qn F.tb Fb 400 Od.1 Od.2.1 Od.2.2.1=some (Od.2.2.2.1,Od.2.2.2.2):=by kernel_rfl
theorem QlO:Qn F.tb Fc 400 Oe.1 Oe.2.1 Oe.2.2.1=some (Oe.2.2.2.1,Oe.2.2.2.2):=by kernel_rfl
theorem QlP:Qn F.tb Fd 400 Of.1 Of.2.1 Of.2.2.1=some (Of.2.2.2.1,Of.2.2.2.2):=by kernel_rfl
theorem QlQ:Qn F.tb Fe 400 Og.1 Og.2.1 Og.2.2.1=some (Og.2.2.2.1,Og.2.2.2.2):=by kernel_rfl
theorem QlR:Qn F.tb Ff 400 Oh.1 Oh.2.1 Oh.2.2.1=some (Oh.2.2.2.1,Oh.2.2.2.2):=by kernel_rfl
theorem QlS:Qn F.tb Fg 400 Oi.1 Oi.2.1 Oi.2.2.1=some (Oi.2.2.2.1,Oi.2.2.2.2):=by kernel_rfl
theorem QlT:Qn F.tb Fh 400 Oj.1 Oj.2.1 Oj.2.2.1=some (Oj.2.2.2.1,Oj.2.2.2.2):=by kernel_rfl
end Go.Am
