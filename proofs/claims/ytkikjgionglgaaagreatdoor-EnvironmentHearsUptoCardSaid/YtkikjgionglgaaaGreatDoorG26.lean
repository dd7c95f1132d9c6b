/-
  EnM2.
-/
import Derived.Test.YtkikjgionglgaaaGreatDoorG23
set_option linter.unusedVariables false
set_option linter.unusedSimpArgs false
namespace Go.Am
theorem Qdr:Qq F.tb LN 400 TP.1 TP.2.1 TP.2.2.1=some (TP.2.2.2.1,TP.2.2.2.2):=by kernel_rfl
theorem Qds:Qq F.tb LO 400 TQ.1 TQ.2.1 TQ.2.2.1=some (TQ.2.2.2.1,TQ.2.2.2.2):=by kernel_rfl
theorem Qdt:Qq F.tb LP 400 TR.1 TR.2.1 TR.2.2.1=some (TR.2.2.2.1,TR.2.2.2.2):=by kernel_rfl
theorem Qdu:Qq F.tb LQ 400 TT.1 TT.2.1 TT.2.2.1=some (TT.2.2.2.1,TT.2.2.2.2):=by kernel_rfl
theorem Qdv:Qq F.tb LR 400 TU.1 TU.2.1 TU.2.2.1=some (TU.2.2.2.1,TU.2.2.2.2):=by kernel_rfl
theorem Qdw:Qq F.tb LS 400 TV.1 TV.2.1 TV.2.2.1=some (TV.2.2.2.1,TV.2.2.2.2):=by kernel_rfl
theorem Qdx:Qq F.tb LT 400 TW.1 TW.2.1 TW.2.2.1=some (TW.2.2.2.1,TW.2.2.2.2):=by kernel_rfl
theorem Qdy:Qq F.tb LU 400 TX.1 TX.2.1 TX.2.2.1=some (TX.2.2.2.1,TX.2.2.2.2):=by kernel_rfl
end Go.Am
