/-
  ScM3.
-/
import Derived.Test.YtpgbndmkiiakaaaGreatDoorG27
set_option linter.unusedVariables false
set_option linter.unusedSimpArgs false
namespace Go.Am
theorem Qk8:Qn F.tb Gv 400 Pv.1 Pv.2.1 Pv.2.2.1=some (Pv.2.2.2.1,Pv.2.2.2.2):=by kernel_rfl
theorem Qk9:Qn F.tb Gw 400 Px.1 Px.2.1 Px.2.2.1=some (Px.2.2.2.1,Px.2.2.2.2):=by kernel_rfl
theorem Qla:Qn F.tb Gx 400 Py.1 Py.2.1 Py.2.2.1=some (Py.2.2.2.1,Py.2.2.2.2):=by kernel_rfl
theorem Qlb:Qn F.tb Gy 400 Pz.1 Pz.2.1 Pz.2.2.1=some (Pz.2.2.2.1,Pz.2.2.2.2):=by kernel_rfl
theorem Qlc:Qn F.tb Gz 400 PA.1 PA.2.1 PA.2.2.1=some (PA.2.2.2.1,PA.2.2.2.2):=by kernel_rfl
theorem Qld:Qn F.tb GA 400 PB.1 PB.2.1 PB.2.2.1=some (PB.2.2.2.1,PB.2.2.2.2):=by kernel_rfl
theorem Qle:Qn F.tb GB 400 PC.1 PC.2.1 PC.2.2.1=some (PC.2.2.2.1,PC.2.2.2.2):=by kernel_rfl
theorem Qlf:Qn F.tb GC 400 PD.1 PD.2.1 PD.2.2.1=some (PD.2.2.2.1,PD.2.2.2.2):=by kernel_rfl
end Go.Am
