/-
  ScM14.
-/
import Derived.Test.YtpgbndmkiiakaaaGreatDoorG26
set_option linter.unusedVariables false
set_option linter.unusedSimpArgs false
namespace Go.Am
theorem Qe6:Qn F.tb Kd 400 TC.1 TC.2.1 TC.2.2.1=some (TC.2.2.2.1,TC.2.2.2.2):=by kernel_rfl
theorem Qe7:Qn F.tb Ke 400 TD.1 TD.2.1 TD.2.2.1=some (TD.2.2.2.1,TD.2.2.2.2):=by kernel_rfl
theorem Qe8:Qn F.tb Kf 400 TE.1 TE.2.1 TE.2.2.1=some (TE.2.2.2.1,TE.2.2.2.2):=by kernel_rfl
theorem Qe9:Qn F.tb Kg 400 TH.1 TH.2.1 TH.2.2.1=some (TH.2.2.2.1,TH.2.2.2.2):=by kernel_rfl
theorem Qfa:Qn F.tb Kh 400 TI.1 TI.2.1 TI.2.2.1=some (TI.2.2.2.1,TI.2.2.2.2):=by kernel_rfl
theorem Qfb:Qn F.tb Ki 400 TJ.1 TJ.2.1 TJ.2.2.1=some (TJ.2.2.2.1,TJ.2.2.2.2):=by kernel_rfl
theorem Qfc:Qn F.tb Kj 400 TK.1 TK.2.1 TK.2.2.1=some (TK.2.2.2.1,TK.2.2.2.2):=by kernel_rfl
theorem Qfd:Qn F.tb Kk 400 TL.1 TL.2.1 TL.2.2.1=some (TL.2.2.2.1,TL.2.2.2.2):=by kernel_rfl
end Go.Am
