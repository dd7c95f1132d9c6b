/-
  ScM15.
-/
import Derived.Test.YtpgbndmkiiakaaaGreatDoorG26
set_option linter.unusedVariables false
set_option linter.unusedSimpArgs false
namespace Go.Am
theorem Qfe:Qn F.tb Kl 400 TM.1 TM.2.1 TM.2.2.1=some (TM.2.2.2.1,TM.2.2.2.2):=by kernel_rfl
theorem Qff:Qn F.tb Km 400 TN.1 TN.2.1 TN.2.2.1=some (TN.2.2.2.1,TN.2.2.2.2):=by kernel_rfl
theorem Qfg:Qn F.tb Ko 400 TO.1 TO.2.1 TO.2.2.1=some (TO.2.2.2.1,TO.2.2.2.2):=by kernel_rfl
theorem Qfh:Qn F.tb Kp 400 TP.1 TP.2.1 TP.2.2.1=some (TP.2.2.2.1,TP.2.2.2.2):=by kernel_rfl
theorem Qfi:Qn F.tb Kq 400 TQ.1 TQ.2.1 TQ.2.2.1=some (TQ.2.2.2.1,TQ.2.2.2.2):=by kernel_rfl
theorem Qfj:Qn F.tb Kr 400 TR.1 TR.2.1 TR.2.2.1=some (TR.2.2.2.1,TR.2.2.2.2):=by kernel_rfl
theorem Qfk:Qn F.tb Ks 400 TT.1 TT.2.1 TT.2.2.1=some (TT.2.2.2.1,TT.2.2.2.2):=by kernel_rfl
theorem Qfl:Qn F.tb Kt 400 TU.1 TU.2.1 TU.2.2.1=some (TU.2.2.2.1,TU.2.2.2.2):=by kernel_rfl
end Go.Am
