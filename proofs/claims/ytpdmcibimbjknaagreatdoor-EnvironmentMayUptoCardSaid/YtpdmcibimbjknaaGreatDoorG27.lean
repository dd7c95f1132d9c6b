/-
  EnM1.
-/
import Derived.Test.YtpdmcibimbjknaaGreatDoorG25
set_option linter.unusedVariables false
set_option linter.unusedSimpArgs false
namespace Go.Am
theorem QhV:Qs F.tb FQ 400 OQ.1 OQ.2.1 OQ.2.2.1=some (OQ.2.2.2.1,OQ.2.2.2.2):=by kernel_rfl
theorem QhW:Qs F.tb FR 400 OR.1 OR.2.1 OR.2.2.1=some (OR.2.2.2.1,OR.2.2.2.2):=by kernel_rfl
theorem Qe8:Qs F.tb Kz 400 Sh.1 Sh.2.1 Sh.2.2.1=some (Sh.2.2.2.1,Sh.2.2.2.2):=by kernel_rfl
theorem Qe9:Qs F.tb KA 400 Si.1 Si.2.1 Si.2.2.1=some (Si.2.2.2.1,Si.2.2.2.2):=by kernel_rfl
theorem Qfa:Qs F.tb KB 400 Sj.1 Sj.2.1 Sj.2.2.1=some (Sj.2.2.2.1,Sj.2.2.2.2):=by kernel_rfl
theorem Qfb:Qs F.tb KC 400 Sk.1 Sk.2.1 Sk.2.2.1=some (Sk.2.2.2.1,Sk.2.2.2.2):=by kernel_rfl
theorem Qfc:Qs F.tb KD 400 Sl.1 Sl.2.1 Sl.2.2.1=some (Sl.2.2.2.1,Sl.2.2.2.2):=by kernel_rfl
theorem Qfd:Qs F.tb KE 400 Sm.1 Sm.2.1 Sm.2.2.1=some (Sm.2.2.2.1,Sm.2.2.2.2):=by kernel_rfl
end Go.Am
