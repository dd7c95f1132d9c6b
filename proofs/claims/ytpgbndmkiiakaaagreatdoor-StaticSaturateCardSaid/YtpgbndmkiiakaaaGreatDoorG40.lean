/-
  ScM13.
-/
import Derived.Test.YtpgbndmkiiakaaaGreatDoorG26
set_option linter.unusedVariables false
set_option linter.unusedSimpArgs false
namespace Go.Am
theorem QeY:Qn F.tb L5 400 Tt.1 Tt.2.1 Tt.2.2.1=some (Tt.2.2.2.1,Tt.2.2.2.2):=by kernel_rfl
theorem QeZ:Qn F.tb L6 400 Tu.1 Tu.2.1 Tu.2.2.1=some (Tu.2.2.2.1,Tu.2.2.2.2):=by kernel_rfl
theorem Qe0:Qn F.tb L7 400 Tv.1 Tv.2.1 Tv.2.2.1=some (Tv.2.2.2.1,Tv.2.2.2.2):=by kernel_rfl
theorem Qe1:Qn F.tb L8 400 Tw.1 Tw.2.1 Tw.2.2.1=some (Tw.2.2.2.1,Tw.2.2.2.2):=by kernel_rfl
theorem Qe2:Qn F.tb L9 400 Tx.1 Tx.2.1 Tx.2.2.1=some (Tx.2.2.2.1,Tx.2.2.2.2):=by kernel_rfl
theorem Qe3:Qn F.tb Ka 400 Ty.1 Ty.2.1 Ty.2.2.1=some (Ty.2.2.2.1,Ty.2.2.2.2):=by kernel_rfl
theorem Qe4:Qn F.tb Kb 400 Tz.1 Tz.2.1 Tz.2.2.1=some (Tz.2.2.2.1,Tz.2.2.2.2):=by kernel_rfl
theorem Qe5:Qn F.tb Kc 400 TA.1 TA.2.1 TA.2.2.1=some (TA.2.2.2.1,TA.2.2.2.2):=by kernel_rfl
end Go.Am
