/-
  ScM10.
-/
import Derived.Test.YtpgbndmkiiakaaaGreatDoorG24
set_option linter.unusedVariables false
set_option linter.unusedSimpArgs false
namespace Go.Am
theorem Qhw:Ql F.tb Iw 400 Rv.1 Rv.2.1 Rv.2.2.1=some (Rv.2.2.2.1,Rv.2.2.2.2):=by kernel_rfl
theorem Qhx:Ql F.tb Ix 400 Rw.1 Rw.2.1 Rw.2.2.1=some (Rw.2.2.2.1,Rw.2.2.2.2):=by kernel_rfl
theorem Qhy:Ql F.tb Iy 400 Rx.1 Rx.2.1 Rx.2.2.1=some (Rx.2.2.2.1,Rx.2.2.2.2):=by kernel_rfl
theorem Qhz:Ql F.tb Iz 400 Ry.1 Ry.2.1 Ry.2.2.1=some (Ry.2.2.2.1,Ry.2.2.2.2):=by kernel_rfl
theorem QhA:Ql F.tb IA 400 Rz.1 Rz.2.1 Rz.2.2.1=some (Rz.2.2.2.1,Rz.2.2.2.2):=by kernel_rfl
theorem QhB:Ql F.tb IB 400 RA.1 RA.2.1 RA.2.2.1=some (RA.2.2.2.1,RA.2.2.2.2):=by kernel_rfl
theorem QhC:Ql F.tb IC 400 RB.1 RB.2.1 RB.2.2.1=some (RB.2.2.2.1,RB.2.2.2.2):=by kernel_rfl
theorem QhD:Ql F.tb ID 400 RC.1 RC.2.1 RC.2.2.1=some (RC.2.2.2.1,RC.2.2.2.2):=by kernel_rfl
end Go.Am
