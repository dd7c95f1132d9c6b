/-
  EnM4.
-/
import Derived.Test.YtkikjgionglgaaaGreatDoorG23
set_option linter.unusedVariables false
set_option linter.unusedSimpArgs false
namespace Go.Am
theorem QdH:Qq F.tb L3 400 T6.1 T6.2.1 T6.2.2.1=some (T6.2.2.2.1,T6.2.2.2.2):=by kernel_rfl
theorem QdI:Qq F.tb L4 400 T7.1 T7.2.1 T7.2.2.1=some (T7.2.2.2.1,T7.2.2.2.2):=by kernel_rfl
theorem QdJ:Qq F.tb L5 400 T8.1 T8.2.1 T8.2.2.1=some (T8.2.2.2.1,T8.2.2.2.2):=by kernel_rfl
theorem QdK:Qq F.tb L6 400 T9.1 T9.2.1 T9.2.2.1=some (T9.2.2.2.1,T9.2.2.2.2):=by kernel_rfl
theorem QdL:Qq F.tb L7 400 Sa.1 Sa.2.1 Sa.2.2.1=some (Sa.2.2.2.1,Sa.2.2.2.2):=by kernel_rfl
theorem QdM:Qq F.tb L8 400 Sb.1 Sb.2.1 Sb.2.2.1=some (Sb.2.2.2.1,Sb.2.2.2.2):=by kernel_rfl
theorem QdN:Qq F.tb L9 400 Sc.1 Sc.2.1 Sc.2.2.1=some (Sc.2.2.2.1,Sc.2.2.2.2):=by kernel_rfl
theorem QdO:Qq F.tb Ka 400 Sd.1 Sd.2.1 Sd.2.2.1=some (Sd.2.2.2.1,Sd.2.2.2.2):=by kernel_rfl
end Go.Am
