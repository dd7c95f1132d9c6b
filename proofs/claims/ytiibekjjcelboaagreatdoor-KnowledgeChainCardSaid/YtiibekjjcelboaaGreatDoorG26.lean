/-
  KnN0.
-/
import Derived.Test.YtiibekjjcelboaaGreatDoorG25
set_option linter.unusedVariables false
set_option linter.unusedSimpArgs false
namespace Go.Am
theorem Qg5:QQ F.tb G2 400 Oa.1 Oa.2.1 Oa.2.2.1=some (Oa.2.2.2.1,Oa.2.2.2.2):=by kernel_rfl
theorem Qg6:QQ F.tb G3 400 Ob.1 Ob.2.1 Ob.2.2.1=some (Ob.2.2.2.1,Ob.2.2.2.2):=by kernel_rfl
theorem Qg7:QQ F.tb G4 400 Oc.1 Oc.2.1 Oc.2.2.1=some (Oc.2.2.2.1,Oc.2.2.2.2):=by kernel_rfl
theorem Qg8:QQ F.tb G5 400 Od.1 Od.2.1 Od.2.2.1=some (Od.2.2.2.1,Od.2.2.2.2):=by kernel_rfl
end Go.Am
