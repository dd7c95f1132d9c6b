/-
  KnN5.
-/
import Derived.Test.YtiibekjjcelboaaGreatDoorG25
set_option linter.unusedVariables false
set_option linter.unusedSimpArgs false
namespace Go.Am
theorem Qe4:QQ F.tb Ke 400 Sr.1 Sr.2.1 Sr.2.2.1=some (Sr.2.2.2.1,Sr.2.2.2.2):=by kernel_rfl
theorem Qe5:QQ F.tb Kf 400 Ss.1 Ss.2.1 Ss.2.2.1=some (Ss.2.2.2.1,Ss.2.2.2.2):=by kernel_rfl
theorem Qe6:QQ F.tb Kg 400 Su.1 Su.2.1 Su.2.2.1=some (Su.2.2.2.1,Su.2.2.2.2):=by kernel_rfl
theorem Qe7:QQ F.tb Kh 400 Sv.1 Sv.2.1 Sv.2.2.1=some (Sv.2.2.2.1,Sv.2.2.2.2):=by kernel_rfl
end Go.Am
