/-
  EnM3.
-/
import Derived.Test.YtpdmcibimbjknaaGreatDoorG25
set_option linter.unusedVariables false
set_option linter.unusedSimpArgs false
namespace Go.Am
theorem Qfm:Qs F.tb KQ 400 Sw.1 Sw.2.1 Sw.2.2.1=some (Sw.2.2.2.1,Sw.2.2.2.2):=by kernel_rfl
theorem Qfn:Qs F.tb KR 400 Sx.1 Sx.2.1 Sx.2.2.1=some (Sx.2.2.2.1,Sx.2.2.2.2):=by kernel_rfl
theorem Qfo:Qs F.tb KS 400 Sz.1 Sz.2.1 Sz.2.2.1=some (Sz.2.2.2.1,Sz.2.2.2.2):=by kernel_rfl
theorem Qfp:Qs F.tb KT 400 SA.1 SA.2.1 SA.2.2.1=some (SA.2.2.2.1,SA.2.2.2.2):=by kernel_rfl
theorem Qfq:Qs F.tb KU 400 SB.1 SB.2.1 SB.2.2.1=some (SB.2.2.2.1,SB.2.2.2.2):=by kernel_rfl
theorem Qfr:Qs F.tb KV 400 SC.1 SC.2.1 SC.2.2.1=some (SC.2.2.2.1,SC.2.2.2.2):=by kernel_rfl
theorem Qfs:Qs F.tb KW 400 SD.1 SD.2.1 SD.2.2.1=some (SD.2.2.2.1,SD.2.2.2.2):=by kernel_rfl
theorem Qft:Qs F.tb KX 400 SE.1 SE.2.1 SE.2.2.1=some (SE.2.2.2.1,SE.2.2.2.2):=by kernel_rfl
end Go.Am
