/-
  KnN12.
-/
import Derived.Test.YtiibekjjcelboaaGreatDoorG25
set_option linter.unusedVariables false
set_option linter.unusedSimpArgs false
namespace Go.Am
theorem Qfw:QQ F.tb KI 400 SX.1 SX.2.1 SX.2.2.1=some (SX.2.2.2.1,SX.2.2.2.2):=by kernel_rfl
theorem Qfx:QQ F.tb KJ 400 SZ.1 SZ.2.1 SZ.2.2.1=some (SZ.2.2.2.1,SZ.2.2.2.2):=by kernel_rfl
theorem Qfy:QQ F.tb KL 400 S0.1 S0.2.1 S0.2.2.1=some (S0.2.2.2.1,S0.2.2.2.2):=by kernel_rfl
theorem Qfz:QQ F.tb KN 400 S1.1 S1.2.1 S1.2.2.1=some (S1.2.2.2.1,S1.2.2.2.2):=by kernel_rfl
end Go.Am
