/-
  ScM7.
-/
import Derived.Test.YtpgbndmkiiakaaaGreatDoorG27
set_option linter.unusedVariables false
set_option linter.unusedSimpArgs false
namespace Go.Am
theorem QlE:Qn F.tb G2 400 P4.1 P4.2.1 P4.2.2.1=some (P4.2.2.2.1,P4.2.2.2.2):=by kernel_rfl
theorem QlF:Qn F.tb G3 400 P5.1 P5.2.1 P5.2.2.1=some (P5.2.2.2.1,P5.2.2.2.2):=by kernel_rfl
theorem QlG:Qn F.tb G4 400 P6.1 P6.2.1 P6.2.2.1=some (P6.2.2.2.1,P6.2.2.2.2):=by kernel_rfl
theorem QlH:Qn F.tb G5 400 P7.1 P7.2.1 P7.2.2.1=some (P7.2.2.2.1,P7.2.2.2.2):=by kernel_rfl
theorem QlI:Qn F.tb G6 400 P8.1 P8.2.1 P8.2.2.1=some (P8.2.2.2.1,P8.2.2.2.2):=by kernel_rfl
theorem QlJ:Qn F.tb G7 400 P9.1 P9.2.1 P9.2.2.1=some (P9.2.2.2.1,P9.2.2.2.2):=by kernel_rfl
theorem QlK:Qn F.tb G8 400 Oa.1 Oa.2.1 Oa.2.2.1=some (Oa.2.2.2.1,Oa.2.2.2.2):=by kernel_rfl
theorem QlL:Qn F.tb G9 400 Ob.1 Ob.2.1 Ob.2.2.1=some (Ob.2.2.2.1,Ob.2.2.2.2):=by kernel_rfl
end Go.Am
