/-
  KnN13.
-/
import Derived.Test.YtiibekjjcelboaaGreatDoorG25
set_option linter.unusedVariables false
set_option linter.unusedSimpArgs false
namespace Go.Am
theorem QfA:QQ F.tb KO 400 S2.1 S2.2.1 S2.2.2.1=some (S2.2.2.2.1,S2.2.2.2.2):=by kernel_rfl
theorem QfB:QQ F.tb KP 400 S3.1 S3.2.1 S3.2.2.1=some (S3.2.2.2.1,S3.2.2.2.2):=by kernel_rfl
theorem QfC:QQ F.tb KQ 400 S5.1 S5.2.1 S5.2.2.1=some (S5.2.2.2.1,S5.2.2.2.2):=by kernel_rfl
theorem QfD:QQ F.tb KR 400 S6.1 S6.2.1 S6.2.2.1=some (S6.2.2.2.1,S6.2.2.2.2):=by kernel_rfl
end Go.Am
