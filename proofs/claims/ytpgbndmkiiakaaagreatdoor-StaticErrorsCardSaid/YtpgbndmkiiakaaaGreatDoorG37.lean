/-
  ScM9.
-/
import Derived.Test.YtpgbndmkiiakaaaGreatDoorG27
set_option linter.unusedVariables false
set_option linter.unusedSimpArgs false
namespace Go.Am
theorem QlU:Qn F.tb Fi 400 Ok.1 Ok.2.1 Ok.2.2.1=some (Ok.2.2.2.1,Ok.2.2.2.2):=by kernel_rfl
theorem QlV:Qn F.tb Fj 400 Ol.1 Ol.2.1 Ol.2.2.1=some (Ol.2.2.2.1,Ol.2.2.2.2):=by kernel_rfl
theorem QlW:Qn F.tb Fk 400 Om.1 Om.2.1 Om.2.2.1=some (Om.2.2.2.1,Om.2.2.2.2):=by kernel_rfl
theorem QlX:Qn F.tb Fl 400 On.1 On.2.1 On.2.2.1=some (On.2.2.2.1,On.2.2.2.2):=by kernel_rfl
theorem QlY:Qn F.tb Fm 400 Oo.1 Oo.2.1 Oo.2.2.1=some (Oo.2.2.2.1,Oo.2.2.2.2):=by kernel_rfl
theorem QlZ:Qn F.tb Fn 400 Oq.1 Oq.2.1 Oq.2.2.1=some (Oq.2.2.2.1,Oq.2.2.2.2):=by kernel_rfl
theorem Ql0:Qn F.tb Fo 400 Ot.1 Ot.2.1 Ot.2.2.1=some (Ot.2.2.2.1,Ot.2.2.2.2):=by kernel_rfl
theorem Ql1:Qn F.tb Fp 400 Ou.1 Ou.2.1 Ou.2.2.1=some (Ou.2.2.2.1,Ou.2.2.2.2):=by kernel_rfl
end Go.Am
