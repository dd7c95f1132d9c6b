/-
  ScM10.
-/
import Derived.Test.YtpgbndmkiiakaaaGreatDoorG26
set_option linter.unusedVariables false
set_option linter.unusedSimpArgs false
namespace Go.Am
theorem Qju:Qn F.tb Hw 400 Ps.1 Ps.2.1 Ps.2.2.1=some (Ps.2.2.2.1,Ps.2.2.2.2):=by kernel_rfl
theorem Qjv:Qn F.tb Hx 400 Pt.1 Pt.2.1 Pt.2.2.1=some (Pt.2.2.2.1,Pt.2.2.2.2):=by kernel_rfl
theorem Qjw:Qn F.tb Hy 400 Pu.1 Pu.2.1 Pu.2.2.1=some (Pu.2.2.2.1,Pu.2.2.2.2):=by kernel_rfl
theorem Qjx:Qn F.tb Hz 400 Pv.1 Pv.2.1 Pv.2.2.1=some (Pv.2.2.2.1,Pv.2.2.2.2):=by kernel_rfl
theorem Qjy:Qn F.tb HA 400 Px.1 Px.2.1 Px.2.2.1=some (Px.2.2.2.1,Px.2.2.2.2):=by kernel_rfl
theorem Qjz:Qn F.tb HB 400 Py.1 Py.2.1 Py.2.2.1=some (Py.2.2.2.1,Py.2.2.2.2):=by kernel_rfl
theorem QjA:Qn F.tb HC 400 Pz.1 Pz.2.1 Pz.2.2.1=some (Pz.2.2.2.1,Pz.2.2.2.2):=by kernel_rfl
theorem QjB:Qn F.tb HD 400 PA.1 PA.2.1 PA.2.2.1=some (PA.2.2.2.1,PA.2.2.2.2):=by kernel_rfl
end Go.Am
