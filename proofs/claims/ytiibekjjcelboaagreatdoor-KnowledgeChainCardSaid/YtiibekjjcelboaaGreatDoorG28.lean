/-
  KnN2.
-/
import Derived.Test.YtiibekjjcelboaaGreatDoorG25
set_option linter.unusedVariables false
set_option linter.unusedSimpArgs false
namespace Go.Am
theorem Qhd:QQ F.tb Fa 400 Oi.1 Oi.2.1 Oi.2.2.1=some (Oi.2.2.2.1,Oi.2.2.2.2):=by kernel_rfl
theorem Qhe:QQ F.tb Fb 400 Oj.1 Oj.2.1 Oj.2.2.1=some (Oj.2.2.2.1,Oj.2.2.2.2):=by kernel_rfl
theorem QeU:QQ F.tb L4 400 Sg.1 Sg.2.1 Sg.2.2.1=some (Sg.2.2.2.1,Sg.2.2.2.2):=by kernel_rfl
theorem QeV:QQ F.tb L5 400 Sh.1 Sh.2.1 Sh.2.2.1=some (Sh.2.2.2.1,Sh.2.2.2.2):=by kernel_rfl
end Go.Am
