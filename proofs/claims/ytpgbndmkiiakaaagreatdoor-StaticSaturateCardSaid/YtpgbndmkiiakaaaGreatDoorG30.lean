/-
  ScM3.
-/
import Derived.Test.YtpgbndmkiiakaaaGreatDoorG26
set_option linter.unusedVariables false
set_option linter.unusedSimpArgs false
namespace Go.Am
theorem QiA:Qn F.tb Iy 400 Rw.1 Rw.2.1 Rw.2.2.1=some (Rw.2.2.2.1,Rw.2.2.2.2):=by kernel_rfl
theorem QiB:Qn F.tb Iz 400 Rx.1 Rx.2.1 Rx.2.2.1=some (Rx.2.2.2.1,Rx.2.2.2.2):=by kernel_rfl
theorem QiC:Qn F.tb IA 400 Ry.1 Ry.2.1 Ry.2.2.1=some (Ry.2.2.2.1,Ry.2.2.2.2):=by kernel_rfl
theorem QiD:Qn F.tb IB 400 Rz.1 Rz.2.1 Rz.2.2.1=some (Rz.2.2.2.1,Rz.2.2.2.2):=by kernel_rfl
theorem QiE:Qn F.tb IC 400 RA.1 RA.2.1 RA.2.2.1=some (RA.2.2.2.1,RA.2.2.2.2):=by kernel_rfl
theorem QiF:Qn F.tb ID 400 RB.1 RB.2.1 RB.2.2.1=some (RB.2.2.2.1,RB.2.2.2.2):=by kernel_rfl
theorem QiG:Qn F.tb IE 400 RC.1 RC.2.1 RC.2.2.1=some (RC.2.2.2.1,RC.2.2.2.2):=by kernel_rfl
theorem QiH:Qn F.tb IF 400 RD.1 RD.2.1 RD.2.2.1=some (RD.2.2.2.1,RD.2.2.2.2):=by kernel_rfl
end Go.Am
