/-
  ScM13.
-/
import Derived.Test.YtpgbndmkiiakaaaGreatDoorG27
set_option linter.unusedVariables false
set_option linter.unusedSimpArgs false
namespace Go.Am
theorem Qhr:Qn F.tb JH 400 Si.1 Si.2.1 Si.2.2.1=some (Si.2.2.2.1,Si.2.2.2.2):=by kernel_rfl
theorem Qhs:Qn F.tb JI 400 Sj.1 Sj.2.1 Sj.2.2.1=some (Sj.2.2.2.1,Sj.2.2.2.2):=by kernel_rfl
theorem Qht:Qn F.tb JJ 400 Sk.1 Sk.2.1 Sk.2.2.1=some (Sk.2.2.2.1,Sk.2.2.2.2):=by kernel_rfl
theorem Qhu:Qn F.tb JK 400 Sl.1 Sl.2.1 Sl.2.2.1=some (Sl.2.2.2.1,Sl.2.2.2.2):=by kernel_rfl
theorem Qhv:Qn F.tb JL 400 Sm.1 Sm.2.1 Sm.2.2.1=some (Sm.2.2.2.1,Sm.2.2.2.2):=by kernel_rfl
theorem Qhw:Qn F.tb JM 400 Sn.1 Sn.2.1 Sn.2.2.1=some (Sn.2.2.2.1,Sn.2.2.2.2):=by kernel_rfl
theorem Qhx:Qn F.tb JN 400 So.1 So.2.1 So.2.2.1=some (So.2.2.2.1,So.2.2.2.2):=by kernel_rfl
theorem Qhy:Qn F.tb JO 400 Sp.1 Sp.2.1 Sp.2.2.1=some (Sp.2.2.2.1,Sp.2.2.2.2):=by kernel_rfl
end Go.Am
