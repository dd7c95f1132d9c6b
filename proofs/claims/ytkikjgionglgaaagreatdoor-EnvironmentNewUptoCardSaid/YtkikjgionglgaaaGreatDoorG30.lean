/-
  EnM6.
-/
import Derived.Test.YtkikjgionglgaaaGreatDoorG23
set_option linter.unusedVariables false
set_option linter.unusedSimpArgs false
namespace Go.Am
theorem QdX:Qq F.tb Kj 400 Sm.1 Sm.2.1 Sm.2.2.1=some (Sm.2.2.2.1,Sm.2.2.2.2):=by kernel_rfl
theorem QdY:Qq F.tb Kk 400 Sn.1 Sn.2.1 Sn.2.2.1=some (Sn.2.2.2.1,Sn.2.2.2.2):=by kernel_rfl
theorem QdZ:Qq F.tb Kl 400 So.1 So.2.1 So.2.2.1=some (So.2.2.2.1,So.2.2.2.2):=by kernel_rfl
theorem Qd0:Qq F.tb Km 400 Sp.1 Sp.2.1 Sp.2.2.1=some (Sp.2.2.2.1,Sp.2.2.2.2):=by kernel_rfl
theorem Qd1:Qq F.tb Ko 400 Sq.1 Sq.2.1 Sq.2.2.1=some (Sq.2.2.2.1,Sq.2.2.2.2):=by kernel_rfl
theorem Qd2:Qq F.tb Kp 400 Sr.1 Sr.2.1 Sr.2.2.1=some (Sr.2.2.2.1,Sr.2.2.2.2):=by kernel_rfl
theorem Qd3:Qq F.tb Kq 400 Ss.1 Ss.2.1 Ss.2.2.1=some (Ss.2.2.2.1,Ss.2.2.2.2):=by kernel_rfl
theorem Qd4:Qq F.tb Kr 400 Su.1 Su.2.1 Su.2.2.1=some (Su.2.2.2.1,Su.2.2.2.2):=by kernel_rfl
end Go.Am
