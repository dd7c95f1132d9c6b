/-
  ScM7.
-/
import Derived.Test.YtpgbndmkiiakaaaGreatDoorG24
set_option linter.unusedVariables false
set_option linter.unusedSimpArgs false
namespace Go.Am
theorem Qg8:Ql F.tb J6 400 S7.1 S7.2.1 S7.2.2.1=some (S7.2.2.2.1,S7.2.2.2.2):=by kernel_rfl
theorem Qg9:Ql F.tb J7 400 S8.1 S8.2.1 S8.2.2.1=some (S8.2.2.2.1,S8.2.2.2.2):=by kernel_rfl
theorem Qha:Ql F.tb J8 400 S9.1 S9.2.1 S9.2.2.1=some (S9.2.2.2.1,S9.2.2.2.2):=by kernel_rfl
theorem Qhb:Ql F.tb J9 400 Ra.1 Ra.2.1 Ra.2.2.1=some (Ra.2.2.2.1,Ra.2.2.2.2):=by kernel_rfl
theorem Qhc:Ql F.tb Ia 400 Rb.1 Rb.2.1 Rb.2.2.1=some (Rb.2.2.2.1,Rb.2.2.2.2):=by kernel_rfl
theorem Qhd:Ql F.tb Ib 400 Rc.1 Rc.2.1 Rc.2.2.1=some (Rc.2.2.2.1,Rc.2.2.2.2):=by kernel_rfl
theorem Qhe:Ql F.tb Ic 400 Rd.1 Rd.2.1 Rd.2.2.1=some (Rd.2.2.2.1,Rd.2.2.2.2):=by kernel_rfl
theorem Qhf:Ql F.tb Id 400 Re.1 Re.2.1 Re.2.2.1=some (Re.2.2.2.1,Re.2.2.2.2):=by kernel_rfl
end Go.Am
