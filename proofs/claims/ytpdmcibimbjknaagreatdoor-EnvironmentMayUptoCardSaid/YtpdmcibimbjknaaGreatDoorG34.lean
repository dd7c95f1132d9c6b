/-
  EnM8.
-/
import Derived.Test.YtpdmcibimbjknaaGreatDoorG25
set_option linter.unusedVariables false
set_option linter.unusedSimpArgs false
namespace Go.Am
theorem Qf0:Qs F.tb Ju 400 Rb.1 Rb.2.1 Rb.2.2.1=some (Rb.2.2.2.1,Rb.2.2.2.2):=by kernel_rfl
theorem Qf1:Qs F.tb Jv 400 Rc.1 Rc.2.1 Rc.2.2.1=some (Rc.2.2.2.1,Rc.2.2.2.2):=by kernel_rfl
theorem Qf2:Qs F.tb Jw 400 Rd.1 Rd.2.1 Rd.2.2.1=some (Rd.2.2.2.1,Rd.2.2.2.2):=by kernel_rfl
theorem Qf3:Qs F.tb Jx 400 Re.1 Re.2.1 Re.2.2.1=some (Re.2.2.2.1,Re.2.2.2.2):=by kernel_rfl
theorem Qf4:Qs F.tb Jy 400 Rf.1 Rf.2.1 Rf.2.2.1=some (Rf.2.2.2.1,Rf.2.2.2.2):=by kernel_rfl
theorem Qf5:Qs F.tb Jz 400 Rg.1 Rg.2.1 Rg.2.2.1=some (Rg.2.2.2.1,Rg.2.2.2.2):=by kernel_rfl
theorem Qf6:Qs F.tb JA 400 Rh.1 Rh.2.1 Rh.2.2.1=some (Rh.2.2.2.1,Rh.2.2.2.2):=by kernel_rfl
theorem Qf7:Qs F.tb JB 400 Ri.1 Ri.2.1 Ri.2.2.1=some (Ri.2.2.2.1,Ri.2.2.2.2):=by kernel_rfl
end Go.Am
