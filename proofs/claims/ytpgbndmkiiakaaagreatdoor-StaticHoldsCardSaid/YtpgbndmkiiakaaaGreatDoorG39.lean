/-
  ScM14.
-/
import Derived.Test.YtpgbndmkiiakaaaGreatDoorG24
set_option linter.unusedVariables false
set_option linter.unusedSimpArgs false
namespace Go.Am
theorem Qdt:Ql F.tb La 400 UO.1 UO.2.1 UO.2.2.1=some (UO.2.2.2.1,UO.2.2.2.2):=by kernel_rfl
theorem Qdu:Ql F.tb Lb 400 UP.1 UP.2.1 UP.2.2.1=some (UP.2.2.2.1,UP.2.2.2.2):=by kernel_rfl
theorem Qdv:Ql F.tb Lc 400 UQ.1 UQ.2.1 UQ.2.2.1=some (UQ.2.2.2.1,UQ.2.2.2.2):=by kernel_rfl
theorem Qdw:Ql F.tb Ld 400 UR.1 UR.2.1 UR.2.2.1=some (UR.2.2.2.1,UR.2.2.2.2):=by kernel_rfl
theorem Qdx:Ql F.tb Lf 400 US.1 US.2.1 US.2.2.1=some (US.2.2.2.1,US.2.2.2.2):=by kernel_rfl
theorem Qdy:Ql F.tb Lg 400 UT.1 UT.2.1 UT.2.2.1=some (UT.2.2.2.1,UT.2.2.2.2):=by kernel_rfl
theorem Qdz:Ql F.tb Lh 400 UU.1 UU.2.1 UU.2.2.1=some (UU.2.2.2.1,UU.2.2.2.2):=by kernel_rfl
theorem QdA:Ql F.tb Li 400 UV.1 UV.2.1 UV.2.2.1=some (UV.2.2.2.1,UV.2.2.2.2):=by kernel_rfl
end Go.Am
