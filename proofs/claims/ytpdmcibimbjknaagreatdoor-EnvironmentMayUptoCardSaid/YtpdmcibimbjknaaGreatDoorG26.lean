/-
  EnM0.
-/
import Derived.Test.YtpdmcibimbjknaaGreatDoorG25
set_option linter.unusedVariables false
set_option linter.unusedSimpArgs false
namespace Go.Am
theorem QhN:Qs F.tb FI 400 OI.1 OI.2.1 OI.2.2.1=some (OI.2.2.2.1,OI.2.2.2.2):=by kernel_rfl
theorem QhO:Qs F.tb FJ 400 OJ.1 OJ.2.1 OJ.2.2.1=some (OJ.2.2.2.1,OJ.2.2.2.2):=by kernel_rfl
theorem QhP:Qs F.tb FK 400 OK.1 OK.2.1 OK.2.2.1=some (OK.2.2.2.1,OK.2.2.2.2):=by kernel_rfl
theorem QhQ:Qs F.tb FL 400 OL.1 OL.2.1 OL.2.2.1=some (OL.2.2.2.1,OL.2.2.2.2):=by kernel_rfl
theorem QhR:Qs F.tb FM 400 OM.1 OM.2.1 OM.2.2.1=some (OM.2.2.2.1,OM.2.2.2.2):=by kernel_rfl
theorem QhS:Qs F.tb FN 400 ON.1 ON.2.1 ON.2.2.1=some (ON.2.2.2.1,ON.2.2.2.2):=by kernel_rfl
theorem QhT:Qs F.tb FO 400 OO.1 OO.2.1 OO.2.2.1=some (OO.2.2.2.1,OO.2.2.2.2):=by kernel_rfl
theorem QhU:Qs F.tb FP 400 OP.1 OP.2.1 OP.2.2.1=some (OP.2.2.2.1,OP.2.2.2.2):=by kernel_rfl
end Go.Am
