/-
  ScM14.
-/
import Derived.Test.YtpgbndmkiiakaaaGreatDoorG27
set_option linter.unusedVariables false
set_option linter.unusedSimpArgs false
namespace Go.Am
theorem Qhz:Qn F.tb JP 400 Sq.1 Sq.2.1 Sq.2.2.1=some (Sq.2.2.2.1,Sq.2.2.2.2):=by kernel_rfl
theorem QhA:Qn F.tb JQ 400 Sr.1 Sr.2.1 Sr.2.2.1=some (Sr.2.2.2.1,Sr.2.2.2.2):=by kernel_rfl
theorem QhB:Qn F.tb JR 400 Ss.1 Ss.2.1 Ss.2.2.1=some (Ss.2.2.2.1,Ss.2.2.2.2):=by kernel_rfl
theorem QhC:Qn F.tb JS 400 Su.1 Su.2.1 Su.2.2.1=some (Su.2.2.2.1,Su.2.2.2.2):=by kernel_rfl
theorem QhD:Qn F.tb JT 400 Sv.1 Sv.2.1 Sv.2.2.1=some (Sv.2.2.2.1,Sv.2.2.2.2):=by kernel_rfl
theorem QhE:Qn F.tb JU 400 Sw.1 Sw.2.1 Sw.2.2.1=some (Sw.2.2.2.1,Sw.2.2.2.2):=by kernel_rfl
theorem QhF:Qn F.tb JV 400 Sx.1 Sx.2.1 Sx.2.2.1=some (Sx.2.2.2.1,Sx.2.2.2.2):=by kernel_rfl
theorem QhG:Qn F.tb JW 400 Sz.1 Sz.2.1 Sz.2.2.1=some (Sz.2.2.2.1,Sz.2.2.2.2):=by kernel_rfl
end Go.Am
