/-
  ScM11.
-/
import Derived.Test.YtpgbndmkiiakaaaGreatDoorG27
set_option linter.unusedVariables false
set_option linter.unusedSimpArgs false
namespace Go.Am
theorem Qma:Qn F.tb Fz 400 OD.1 OD.2.1 OD.2.2.1=some (OD.2.2.2.1,OD.2.2.2.2):=by kernel_rfl
theorem Qmb:Qn F.tb FA 400 OE.1 OE.2.1 OE.2.2.1=some (OE.2.2.2.1,OE.2.2.2.2):=by kernel_rfl
theorem Qmc:Qn F.tb FC 400 OG.1 OG.2.1 OG.2.2.1=some (OG.2.2.2.1,OG.2.2.2.2):=by kernel_rfl
theorem Qmd:Qn F.tb FD 400 OH.1 OH.2.1 OH.2.2.1=some (OH.2.2.2.1,OH.2.2.2.2):=by kernel_rfl
theorem Qme:Qn F.tb FE 400 OI.1 OI.2.1 OI.2.2.1=some (OI.2.2.2.1,OI.2.2.2.2):=by kernel_rfl
theorem Qmf:Qn F.tb FF 400 OJ.1 OJ.2.1 OJ.2.2.1=some (OJ.2.2.2.1,OJ.2.2.2.2):=by kernel_rfl
theorem Qmg:Qn F.tb FH 400 OK.1 OK.2.1 OK.2.2.1=some (OK.2.2.2.1,OK.2.2.2.2):=by kernel_rfl
theorem Qmh:Qn F.tb FI 400 OL.1 OL.2.1 OL.2.2.1=some (OL.2.2.2.1,OL.2.2.2.2):=by kernel_rfl
end Go.Am
