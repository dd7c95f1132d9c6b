/-
  ScM9.
-/
import Derived.Test.YtpgbndmkiiakaaaGreatDoorG24
set_option linter.unusedVariables false
set_option linter.unusedSimpArgs false
namespace Go.Am
theorem Qho:Ql F.tb Io 400 Rn.1 Rn.2.1 Rn.2.2.1=some (Rn.2.2.2.1,Rn.2.2.2.2):=by kernel_rfl
theorem Qhp:Ql F.tb Ip 400 Ro.1 Ro.2.1 Ro.2.2.1=some (Ro.2.2.2.1,Ro.2.2.2.2):=by kernel_rfl
theorem Qhq:Ql F.tb Iq 400 Rp.1 Rp.2.1 Rp.2.2.1=some (Rp.2.2.2.1,Rp.2.2.2.2):=by kernel_rfl
theorem Qhr:Ql F.tb Ir 400 Rq.1 Rq.2.1 Rq.2.2.1=some (Rq.2.2.2.1,Rq.2.2.2.2):=by kernel_rfl
theorem Qhs:Ql F.tb Is 400 Rr.1 Rr.2.1 Rr.2.2.1=some (Rr.2.2.2.1,Rr.2.2.2.2):=by kernel_rfl
theorem Qht:Ql F.tb It 400 Rs.1 Rs.2.1 Rs.2.2.1=some (Rs.2.2.2.1,Rs.2.2.2.2):=by kernel_rfl
theorem Qhu:Ql F.tb Iu 400 Rt.1 Rt.2.1 Rt.2.2.1=some (Rt.2.2.2.1,Rt.2.2.2.2):=by kernel_rfl
theorem Qhv:Ql F.tb Iv 400 Ru.1 Ru.2.1 Ru.2.2.1=some (Ru.2.2.2.1,Ru.2.2.2.2):=by kernel_rfl
end Go.Am
