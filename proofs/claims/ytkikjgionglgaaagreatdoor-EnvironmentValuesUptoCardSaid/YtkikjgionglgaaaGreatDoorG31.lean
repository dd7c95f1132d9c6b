/-
  EnM7.
-/
import Derived.Test.YtkikjgionglgaaaGreatDoorG23
set_option linter.unusedVariables false
set_option linter.unusedSimpArgs false
namespace Go.Am
theorem Qd5:Qq F.tb Ks 400 Sv.1 Sv.2.1 Sv.2.2.1=some (Sv.2.2.2.1,Sv.2.2.2.2):=by kernel_rfl
theorem Qd6:Qq F.tb Kt 400 Sw.1 Sw.2.1 Sw.2.2.1=some (Sw.2.2.2.1,Sw.2.2.2.2):=by kernel_rfl
theorem Qd7:Qq F.tb Ku 400 Sx.1 Sx.2.1 Sx.2.2.1=some (Sx.2.2.2.1,Sx.2.2.2.2):=by kernel_rfl
theorem Qd8:Qq F.tb Kv 400 Sz.1 Sz.2.1 Sz.2.2.1=some (Sz.2.2.2.1,Sz.2.2.2.2):=by kernel_rfl
theorem Qd9:Qq F.tb Kw 400 SA.1 SA.2.1 SA.2.2.1=some (SA.2.2.2.1,SA.2.2.2.2):=by kernel_rfl
theorem Qea:Qq F.tb Kx 400 SB.1 SB.2.1 SB.2.2.1=some (SB.2.2.2.1,SB.2.2.2.2):=by kernel_rfl
theorem Qeb:Qq F.tb Ky 400 SC.1 SC.2.1 SC.2.2.1=some (SC.2.2.2.1,SC.2.2.2.2):=by kernel_rfl
theorem Qec:Qq F.tb Kz 400 SD.1 SD.2.1 SD.2.2.1=some (SD.2.2.2.1,SD.2.2.2.2):=by kernel_rfl
end Go.Am
