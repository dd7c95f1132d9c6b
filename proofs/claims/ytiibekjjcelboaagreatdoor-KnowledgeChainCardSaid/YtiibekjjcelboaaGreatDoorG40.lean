/-
  KnN14.
-/
import Derived.Test.YtiibekjjcelboaaGreatDoorG25
set_option linter.unusedVariables false
set_option linter.unusedSimpArgs false
namespace Go.Am
theorem QfE:QQ F.tb KS 400 S7.1 S7.2.1 S7.2.2.1=some (S7.2.2.2.1,S7.2.2.2.2):=by kernel_rfl
theorem QfF:QQ F.tb KT 400 S8.1 S8.2.1 S8.2.2.1=some (S8.2.2.2.1,S8.2.2.2.2):=by kernel_rfl
theorem QfG:QQ F.tb KU 400 S9.1 S9.2.1 S9.2.2.1=some (S9.2.2.2.1,S9.2.2.2.2):=by kernel_rfl
theorem QfH:QQ F.tb KV 400 Ra.1 Ra.2.1 Ra.2.2.1=some (Ra.2.2.2.1,Ra.2.2.2.2):=by kernel_rfl
end Go.Am
