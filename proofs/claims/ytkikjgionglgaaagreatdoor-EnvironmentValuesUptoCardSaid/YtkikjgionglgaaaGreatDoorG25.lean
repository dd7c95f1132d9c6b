/-
  EnM1.
-/
import Derived.Test.YtkikjgionglgaaaGreatDoorG23
set_option linter.unusedVariables false
set_option linter.unusedSimpArgs false
namespace Go.Am
theorem QfT:Qq F.tb GU 400 P8.1 P8.2.1 P8.2.2.1=some (P8.2.2.2.1,P8.2.2.2.2):=by kernel_rfl
theorem QfU:Qq F.tb GV 400 P9.1 P9.2.1 P9.2.2.1=some (P9.2.2.2.1,P9.2.2.2.2):=by kernel_rfl
theorem Qdl:Qq F.tb LH 400 TJ.1 TJ.2.1 TJ.2.2.1=some (TJ.2.2.2.1,TJ.2.2.2.2):=by kernel_rfl
theorem Qdm:Qq F.tb LI 400 TK.1 TK.2.1 TK.2.2.1=some (TK.2.2.2.1,TK.2.2.2.2):=by kernel_rfl
theorem Qdn:Qq F.tb LJ 400 TL.1 TL.2.1 TL.2.2.1=some (TL.2.2.2.1,TL.2.2.2.2):=by kernel_rfl
theorem Qdo:Qq F.tb LK 400 TM.1 TM.2.1 TM.2.2.1=some (TM.2.2.2.1,TM.2.2.2.2):=by kernel_rfl
theorem Qdp:Qq F.tb LL 400 TN.1 TN.2.1 TN.2.2.1=some (TN.2.2.2.1,TN.2.2.2.2):=by kernel_rfl
theorem Qdq:Qq F.tb LM 400 TO.1 TO.2.1 TO.2.2.1=some (TO.2.2.2.1,TO.2.2.2.2):=by kernel_rfl
end Go.Am
