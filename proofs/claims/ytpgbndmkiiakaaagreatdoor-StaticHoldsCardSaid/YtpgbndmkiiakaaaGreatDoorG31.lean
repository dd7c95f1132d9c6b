/-
  ScM6.
-/
import Derived.Test.YtpgbndmkiiakaaaGreatDoorG24
set_option linter.unusedVariables false
set_option linter.unusedSimpArgs false
namespace Go.Am
theorem Qg0:Ql F.tb JY 400 SZ.1 SZ.2.1 SZ.2.2.1=some (SZ.2.2.2.1,SZ.2.2.2.2):=by kernel_rfl
theorem Qg1:Ql F.tb JZ 400 S0.1 S0.2.1 S0.2.2.1=some (S0.2.2.2.1,S0.2.2.2.2):=by kernel_rfl
theorem Qg2:Ql F.tb J0 400 S1.1 S1.2.1 S1.2.2.1=some (S1.2.2.2.1,S1.2.2.2.2):=by kernel_rfl
theorem Qg3:Ql F.tb J1 400 S2.1 S2.2.1 S2.2.2.1=some (S2.2.2.2.1,S2.2.2.2.2):=by kernel_rfl
theorem Qg4:Ql F.tb J2 400 S3.1 S3.2.1 S3.2.2.1=some (S3.2.2.2.1,S3.2.2.2.2):=by kernel_rfl
theorem Qg5:Ql F.tb J3 400 S4.1 S4.2.1 S4.2.2.1=some (S4.2.2.2.1,S4.2.2.2.2):=by kernel_rfl
theorem Qg6:Ql F.tb J4 400 S5.1 S5.2.1 S5.2.2.1=some (S5.2.2.2.1,S5.2.2.2.2):=by kernel_rfl
theorem Qg7:Ql F.tb J5 400 S6.1 S6.2.1 S6.2.2.1=some (S6.2.2.2.1,S6.2.2.2.2):=by kernel_rfl
end Go.Am
