/-
  KnN1.
-/
import Derived.Test.YtiibekjjcelboaaGreatDoorG25
set_option linter.unusedVariables false
set_option linter.unusedSimpArgs false
namespace Go.Am
theorem Qg9:QQ F.tb G6 400 Oe.1 Oe.2.1 Oe.2.2.1=some (Oe.2.2.2.1,Oe.2.2.2.2):=by kernel_rfl
theorem Qha:QQ F.tb G7 400 Of.1 Of.2.1 Of.2.2.1=some (Of.2.2.2.1,Of.2.2.2.2):=by kernel_rfl
theorem Qhb:QQ F.tb G8 400 Og.1 Og.2.1 Og.2.2.1=some (Og.2.2.2.1,Og.2.2.2.2):=by kernel_rfl
theorem Qhc:QQ F.tb G9 400 Oh.1 Oh.2.1 Oh.2.2.1=some (Oh.2.2.2.1,Oh.2.2.2.2):=by kernel_rfl
end Go.Am
