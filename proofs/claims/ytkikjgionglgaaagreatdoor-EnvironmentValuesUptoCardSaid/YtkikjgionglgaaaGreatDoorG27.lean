/-
  EnM3.
-/
import Derived.Test.YtkikjgionglgaaaGreatDoorG23
set_option linter.unusedVariables false
set_option linter.unusedSimpArgs false
namespace Go.Am
theorem Qdz:Qq F.tb LV 400 TY.1 TY.2.1 TY.2.2.1=some (TY.2.2.2.1,TY.2.2.2.2):=by kernel_rfl
theorem QdA:Qq F.tb LW 400 TZ.1 TZ.2.1 TZ.2.2.1=some (TZ.2.2.2.1,TZ.2.2.2.2):=by kernel_rfl
theorem QdB:Qq F.tb LX 400 T0.1 T0.2.1 T0.2.2.1=some (T0.2.2.2.1,T0.2.2.2.2):=by kernel_rfl
theorem QdC:Qq F.tb LY 400 T1.1 T1.2.1 T1.2.2.1=some (T1.2.2.2.1,T1.2.2.2.2):=by kernel_rfl
theorem QdD:Qq F.tb LZ 400 T2.1 T2.2.1 T2.2.2.1=some (T2.2.2.2.1,T2.2.2.2.2):=by kernel_rfl
theorem QdE:Qq F.tb L0 400 T3.1 T3.2.1 T3.2.2.1=some (T3.2.2.2.1,T3.2.2.2.2):=by kernel_rfl
theorem QdF:Qq F.tb L1 400 T4.1 T4.2.1 T4.2.2.1=some (T4.2.2.2.1,T4.2.2.2.2):=by kernel_rfl
theorem QdG:Qq F.tb L2 400 T5.1 T5.2.1 T5.2.2.1=some (T5.2.2.2.1,T5.2.2.2.2):=by kernel_rfl
end Go.Am
