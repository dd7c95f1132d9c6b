/-
  EnM10.
-/
import Derived.Test.YtpdmcibimbjknaaGreatDoorG25
set_option linter.unusedVariables false
set_option linter.unusedSimpArgs false
namespace Go.Am
theorem Qgg:Qs F.tb JK 400 Rr.1 Rr.2.1 Rr.2.2.1=some (Rr.2.2.2.1,Rr.2.2.2.2):=by kernel_rfl
theorem Qgh:Qs F.tb JL 400 Rs.1 Rs.2.1 Rs.2.2.1=some (Rs.2.2.2.1,Rs.2.2.2.2):=by kernel_rfl
theorem Qgi:Qs F.tb JM 400 Rt.1 Rt.2.1 Rt.2.2.1=some (Rt.2.2.2.1,Rt.2.2.2.2):=by kernel_rfl
theorem Qgj:Qs F.tb JN 400 Ru.1 Ru.2.1 Ru.2.2.1=some (Ru.2.2.2.1,Ru.2.2.2.2):=by kernel_rfl
theorem Qgk:Qs F.tb JO 400 Rv.1 Rv.2.1 Rv.2.2.1=some (Rv.2.2.2.1,Rv.2.2.2.2):=by kernel_rfl
theorem Qgl:Qs F.tb JP 400 Rw.1 Rw.2.1 Rw.2.2.1=some (Rw.2.2.2.1,Rw.2.2.2.2):=by kernel_rfl
theorem Qgm:Qs F.tb JQ 400 Rx.1 Rx.2.1 Rx.2.2.1=some (Rx.2.2.2.1,Rx.2.2.2.2):=by kernel_rfl
theorem Qgn:Qs F.tb JR 400 Ry.1 Ry.2.1 Ry.2.2.1=some (Ry.2.2.2.1,Ry.2.2.2.2):=by kernel_rfl
end Go.Am
