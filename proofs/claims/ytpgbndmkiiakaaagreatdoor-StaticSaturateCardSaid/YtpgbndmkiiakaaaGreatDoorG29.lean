/-
  ScM2.
-/
import Derived.Test.YtpgbndmkiiakaaaGreatDoorG26
set_option linter.unusedVariables false
set_option linter.unusedSimpArgs false
namespace Go.Am
theorem Qis:Qn F.tb Iq 400 Rn.1 Rn.2.1 Rn.2.2.1=some (Rn.2.2.2.1,Rn.2.2.2.2):=by kernel_rfl
theorem Qit:Qn F.tb Ir 400 Ro.1 Ro.2.1 Ro.2.2.1=some (Ro.2.2.2.1,Ro.2.2.2.2):=by kernel_rfl
theorem Qiu:Qn F.tb Is 400 Rq.1 Rq.2.1 Rq.2.2.1=some (Rq.2.2.2.1,Rq.2.2.2.2):=by kernel_rfl
theorem Qiv:Qn F.tb It 400 Rr.1 Rr.2.1 Rr.2.2.1=some (Rr.2.2.2.1,Rr.2.2.2.2):=by kernel_rfl
theorem Qiw:Qn F.tb Iu 400 Rs.1 Rs.2.1 Rs.2.2.1=some (Rs.2.2.2.1,Rs.2.2.2.2):=by kernel_rfl
theorem Qix:Qn F.tb Iv 400 Rt.1 Rt.2.1 Rt.2.2.1=some (Rt.2.2.2.1,Rt.2.2.2.2):=by kernel_rfl
theorem Qiy:Qn F.tb Iw 400 Ru.1 Ru.2.1 Ru.2.2.1=some (Ru.2.2.2.1,Ru.2.2.2.2):=by kernel_rfl
theorem Qiz:Qn F.tb Ix 400 Rv.1 Rv.2.1 Rv.2.2.1=some (Rv.2.2.2.1,Rv.2.2.2.2):=by kernel_rfl
end Go.Am
