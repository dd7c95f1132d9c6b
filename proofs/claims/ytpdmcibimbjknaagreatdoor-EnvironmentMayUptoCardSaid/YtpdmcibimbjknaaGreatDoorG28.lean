/-
  EnM2.
-/
import Derived.Test.YtpdmcibimbjknaaGreatDoorG25
set_option linter.unusedVariables false
set_option linter.unusedSimpArgs false
namespace Go.Am
theorem Qfe:Qs F.tb KF 400 Sn.1 Sn.2.1 Sn.2.2.1=some (Sn.2.2.2.1,Sn.2.2.2.2):=by kernel_rfl
theorem Qff:Qs F.tb KH 400 So.1 So.2.1 So.2.2.1=some (So.2.2.2.1,So.2.2.2.2):=by kernel_rfl
theorem Qfg:Qs F.tb KI 400 Sp.1 Sp.2.1 Sp.2.2.1=some (Sp.2.2.2.1,Sp.2.2.2.2):=by kernel_rfl
theorem Qfh:Qs F.tb KJ 400 Sq.1 Sq.2.1 Sq.2.2.1=some (Sq.2.2.2.1,Sq.2.2.2.2):=by kernel_rfl
theorem Qfi:Qs F.tb KL 400 Sr.1 Sr.2.1 Sr.2.2.1=some (Sr.2.2.2.1,Sr.2.2.2.2):=by kernel_rfl
theorem Qfj:Qs F.tb KN 400 Ss.1 Ss.2.1 Ss.2.2.1=some (Ss.2.2.2.1,Ss.2.2.2.2):=by kernel_rfl
theorem Qfk:Qs F.tb KO 400 Su.1 Su.2.1 Su.2.2.1=some (Su.2.2.2.1,Su.2.2.2.2):=by kernel_rfl
theorem Qfl:Qs F.tb KP 400 Sv.1 Sv.2.1 Sv.2.2.1=some (Sv.2.2.2.1,Sv.2.2.2.2):=by kernel_rfl
end Go.Am
