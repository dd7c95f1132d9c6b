/-
  ScM5.
-/
import Derived.Test.YtpgbndmkiiakaaaGreatDoorG27
set_option linter.unusedVariables false
set_option linter.unusedSimpArgs false
namespace Go.Am
theorem Qlo:Qn F.tb GL 400 PN.1 PN.2.1 PN.2.2.1=some (PN.2.2.2.1,PN.2.2.2.2):=by kernel_rfl
theorem Qlp:Qn F.tb GM 400 PO.1 PO.2.1 PO.2.2.1=some (PO.2.2.2.1,PO.2.2.2.2):=by kernel_rfl
theorem Qlq:Qn F.tb GN 400 PP.1 PP.2.1 PP.2.2.1=some (PP.2.2.2.1,PP.2.2.2.2):=by kernel_rfl
theorem Qlr:Qn F.tb GO 400 PQ.1 PQ.2.1 PQ.2.2.1=some (PQ.2.2.2.1,PQ.2.2.2.2):=by kernel_rfl
theorem Qls:Qn F.tb GQ 400 PR.1 PR.2.1 PR.2.2.1=some (PR.2.2.2.1,PR.2.2.2.2):=by kernel_rfl
theorem Qlt:Qn F.tb GR 400 PT.1 PT.2.1 PT.2.2.1=some (PT.2.2.2.1,PT.2.2.2.2):=by kernel_rfl
theorem Qlu:Qn F.tb GS 400 PU.1 PU.2.1 PU.2.2.1=some (PU.2.2.2.1,PU.2.2.2.2):=by kernel_rfl
theorem Qlv:Qn F.tb GT 400 PV.1 PV.2.1 PV.2.2.1=some (PV.2.2.2.1,PV.2.2.2.2):=by kernel_rfl
end Go.Am
