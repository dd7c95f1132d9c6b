/-
  ScM16.
-/
import Derived.Test.YtpgbndmkiiakaaaGreatDoorG24
set_option linter.unusedVariables false
set_option linter.unusedSimpArgs false
namespace Go.Am
theorem QdJ:Ql F.tb Lr 400 U4.1 U4.2.1 U4.2.2.1=some (U4.2.2.2.1,U4.2.2.2.2):=by kernel_rfl
theorem QdK:Ql F.tb Ls 400 U5.1 U5.2.1 U5.2.2.1=some (U5.2.2.2.1,U5.2.2.2.2):=by kernel_rfl
theorem QdL:Ql F.tb Lt 400 U6.1 U6.2.1 U6.2.2.1=some (U6.2.2.2.1,U6.2.2.2.2):=by kernel_rfl
theorem QdM:Ql F.tb Lu 400 U7.1 U7.2.1 U7.2.2.1=some (U7.2.2.2.1,U7.2.2.2.2):=by kernel_rfl
theorem QdN:Ql F.tb Lv 400 U8.1 U8.2.1 U8.2.2.1=some (U8.2.2.2.1,U8.2.2.2.2):=by kernel_rfl
theorem QdO:Ql F.tb Lw 400 U9.1 U9.2.1 U9.2.2.1=some (U9.2.2.2.1,U9.2.2.2.2):=by kernel_rfl
theorem QdP:Ql F.tb Lx 400 Ta.1 Ta.2.1 Ta.2.2.1=some (Ta.2.2.2.1,Ta.2.2.2.2):=by kernel_rfl
theorem QdQ:Ql F.tb Ly 400 Tb.1 Tb.2.1 Tb.2.2.1=some (Tb.2.2.2.1,Tb.2.2.2.2):=by kernel_rfl
end Go.Am
