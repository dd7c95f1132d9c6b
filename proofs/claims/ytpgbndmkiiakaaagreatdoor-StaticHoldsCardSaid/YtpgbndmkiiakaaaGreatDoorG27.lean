/-
  ScM2.
-/
import Derived.Test.YtpgbndmkiiakaaaGreatDoorG24
set_option linter.unusedVariables false
set_option linter.unusedSimpArgs false
namespace Go.Am
theorem Qgu:Ql F.tb Js 400 Sq.1 Sq.2.1 Sq.2.2.1=some (Sq.2.2.2.1,Sq.2.2.2.2):=by kernel_rfl
theorem Qgv:Ql F.tb Jt 400 Sr.1 Sr.2.1 Sr.2.2.1=some (Sr.2.2.2.1,Sr.2.2.2.2):=by kernel_rfl
theorem Qgw:Ql F.tb Ju 400 Ss.1 Ss.2.1 Ss.2.2.1=some (Ss.2.2.2.1,Ss.2.2.2.2):=by kernel_rfl
theorem Qgx:Ql F.tb Jv 400 Su.1 Su.2.1 Su.2.2.1=some (Su.2.2.2.1,Su.2.2.2.2):=by kernel_rfl
theorem Qgy:Ql F.tb Jw 400 Sv.1 Sv.2.1 Sv.2.2.1=some (Sv.2.2.2.1,Sv.2.2.2.2):=by kernel_rfl
theorem Qgz:Ql F.tb Jx 400 Sw.1 Sw.2.1 Sw.2.2.1=some (Sw.2.2.2.1,Sw.2.2.2.2):=by kernel_rfl
theorem QgA:Ql F.tb Jy 400 Sx.1 Sx.2.1 Sx.2.2.1=some (Sx.2.2.2.1,Sx.2.2.2.2):=by kernel_rfl
theorem QgB:Ql F.tb Jz 400 Sz.1 Sz.2.1 Sz.2.2.1=some (Sz.2.2.2.1,Sz.2.2.2.2):=by kernel_rfl
end Go.Am
