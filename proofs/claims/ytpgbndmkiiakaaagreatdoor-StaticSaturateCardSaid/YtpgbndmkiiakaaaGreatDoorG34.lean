/-
  ScM7.
-/
import Derived.Test.YtpgbndmkiiakaaaGreatDoorG26
set_option linter.unusedVariables false
set_option linter.unusedSimpArgs false
namespace Go.Am
theorem Qi6:Qn F.tb I8 400 R3.1 R3.2.1 R3.2.2.1=some (R3.2.2.2.1,R3.2.2.2.2):=by kernel_rfl
theorem Qi7:Qn F.tb I9 400 R4.1 R4.2.1 R4.2.2.1=some (R4.2.2.2.1,R4.2.2.2.2):=by kernel_rfl
theorem Qi8:Qn F.tb Ha 400 R5.1 R5.2.1 R5.2.2.1=some (R5.2.2.2.1,R5.2.2.2.2):=by kernel_rfl
theorem Qi9:Qn F.tb Hb 400 R6.1 R6.2.1 R6.2.2.1=some (R6.2.2.2.1,R6.2.2.2.2):=by kernel_rfl
theorem Qja:Qn F.tb Hc 400 R7.1 R7.2.1 R7.2.2.1=some (R7.2.2.2.1,R7.2.2.2.2):=by kernel_rfl
theorem Qjb:Qn F.tb Hd 400 R8.1 R8.2.1 R8.2.2.1=some (R8.2.2.2.1,R8.2.2.2.2):=by kernel_rfl
theorem Qjc:Qn F.tb He 400 R9.1 R9.2.1 R9.2.2.1=some (R9.2.2.2.1,R9.2.2.2.2):=by kernel_rfl
theorem Qjd:Qn F.tb Hf 400 Pa.1 Pa.2.1 Pa.2.2.1=some (Pa.2.2.2.1,Pa.2.2.2.2):=by kernel_rfl
end Go.Am
