/-
  ScM12.
-/
import Derived.Test.YtpgbndmkiiakaaaGreatDoorG26
set_option linter.unusedVariables false
set_option linter.unusedSimpArgs false
namespace Go.Am
theorem QjK:Qn F.tb HM 400 PJ.1 PJ.2.1 PJ.2.2.1=some (PJ.2.2.2.1,PJ.2.2.2.2):=by kernel_rfl
theorem QjL:Qn F.tb HN 400 PL.1 PL.2.1 PL.2.2.1=some (PL.2.2.2.1,PL.2.2.2.2):=by kernel_rfl
theorem QjM:Qn F.tb HO 400 PM.1 PM.2.1 PM.2.2.1=some (PM.2.2.2.1,PM.2.2.2.2):=by kernel_rfl
theorem QjN:Qn F.tb HP 400 PN.1 PN.2.1 PN.2.2.1=some (PN.2.2.2.1,PN.2.2.2.2):=by kernel_rfl
theorem QeU:Qn F.tb L1 400 Tp.1 Tp.2.1 Tp.2.2.1=some (Tp.2.2.2.1,Tp.2.2.2.2):=by kernel_rfl
theorem QeV:Qn F.tb L2 400 Tq.1 Tq.2.1 Tq.2.2.1=some (Tq.2.2.2.1,Tq.2.2.2.2):=by kernel_rfl
theorem QeW:Qn F.tb L3 400 Tr.1 Tr.2.1 Tr.2.2.1=some (Tr.2.2.2.1,Tr.2.2.2.2):=by kernel_rfl
theorem QeX:Qn F.tb L4 400 Ts.1 Ts.2.1 Ts.2.2.1=some (Ts.2.2.2.1,Ts.2.2.2.2):=by kernel_rfl
end Go.Am
