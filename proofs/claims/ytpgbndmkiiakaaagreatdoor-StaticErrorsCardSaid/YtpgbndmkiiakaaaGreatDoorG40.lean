/-
  ScM12.
-/
import Derived.Test.YtpgbndmkiiakaaaGreatDoorG27
set_option linter.unusedVariables false
set_option linter.unusedSimpArgs false
namespace Go.Am
theorem Qmi:Qn F.tb FJ 400 OM.1 OM.2.1 OM.2.2.1=some (OM.2.2.2.1,OM.2.2.2.2):=by kernel_rfl
theorem Qmj:Qn F.tb FK 400 ON.1 ON.2.1 ON.2.2.1=some (ON.2.2.2.1,ON.2.2.2.2):=by kernel_rfl
theorem Qmk:Qn F.tb FL 400 OO.1 OO.2.1 OO.2.2.1=some (OO.2.2.2.1,OO.2.2.2.2):=by kernel_rfl
theorem Qml:Qn F.tb FM 400 OP.1 OP.2.1 OP.2.2.1=some (OP.2.2.2.1,OP.2.2.2.2):=by kernel_rfl
theorem Qhn:Qn F.tb JD 400 Se.1 Se.2.1 Se.2.2.1=some (Se.2.2.2.1,Se.2.2.2.2):=by kernel_rfl
theorem Qho:Qn F.tb JE 400 Sf.1 Sf.2.1 Sf.2.2.1=some (Sf.2.2.2.1,Sf.2.2.2.2):=by kernel_rfl
theorem Qhp:Qn F.tb JF 400 Sg.1 Sg.2.1 Sg.2.2.1=some (Sg.2.2.2.1,Sg.2.2.2.2):=by kernel_rfl
theorem Qhq:Qn F.tb JG 400 Sh.1 Sh.2.1 Sh.2.2.1=some (Sh.2.2.2.1,Sh.2.2.2.2):=by kernel_rfl
end Go.Am
