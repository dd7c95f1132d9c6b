/-
  EnM12.
-/
import Derived.Test.YtkikjgionglgaaaGreatDoorG23
set_option linter.unusedVariables false
set_option linter.unusedSimpArgs false
namespace Go.Am
theorem QeJ:Qq F.tb K9 400 Ra.1 Ra.2.1 Ra.2.2.1=some (Ra.2.2.2.1,Ra.2.2.2.2):=by kernel_rfl
theorem QeK:Qq F.tb Ja 400 Rb.1 Rb.2.1 Rb.2.2.1=some (Rb.2.2.2.1,Rb.2.2.2.2):=by kernel_rfl
theorem QeL:Qq F.tb Jb 400 Rc.1 Rc.2.1 Rc.2.2.1=some (Rc.2.2.2.1,Rc.2.2.2.2):=by kernel_rfl
theorem QeM:Qq F.tb Jc 400 Rd.1 Rd.2.1 Rd.2.2.1=some (Rd.2.2.2.1,Rd.2.2.2.2):=by kernel_rfl
theorem QaV:Qq F.tb N0 400 UA.1 UA.2.1 UA.2.2.1=some (UA.2.2.2.1,UA.2.2.2.2):=by kernel_rfl
theorem QaW:Qq F.tb N1 400 UB.1 UB.2.1 UB.2.2.1=some (UB.2.2.2.1,UB.2.2.2.2):=by kernel_rfl
theorem QaX:Qq F.tb N2 400 UC.1 UC.2.1 UC.2.2.1=some (UC.2.2.2.1,UC.2.2.2.2):=by kernel_rfl
theorem QaY:Qq F.tb N3 400 UD.1 UD.2.1 UD.2.2.1=some (UD.2.2.2.1,UD.2.2.2.2):=by kernel_rfl
end Go.Am
