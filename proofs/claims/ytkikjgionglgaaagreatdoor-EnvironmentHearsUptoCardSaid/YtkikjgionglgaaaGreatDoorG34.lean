/-
  EnM10.
-/
import Derived.Test.YtkikjgionglgaaaGreatDoorG23
set_option linter.unusedVariables false
set_option linter.unusedSimpArgs false
namespace Go.Am
theorem Qet:Qq F.tb KT 400 SU.1 SU.2.1 SU.2.2.1=some (SU.2.2.2.1,SU.2.2.2.2):=by kernel_rfl
theorem Qeu:Qq F.tb KU 400 SV.1 SV.2.1 SV.2.2.1=some (SV.2.2.2.1,SV.2.2.2.2):=by kernel_rfl
theorem Qev:Qq F.tb KV 400 SW.1 SW.2.1 SW.2.2.1=some (SW.2.2.2.1,SW.2.2.2.2):=by kernel_rfl
theorem Qew:Qq F.tb KW 400 SX.1 SX.2.1 SX.2.2.1=some (SX.2.2.2.1,SX.2.2.2.2):=by kernel_rfl
theorem Qex:Qq F.tb KX 400 SY.1 SY.2.1 SY.2.2.1=some (SY.2.2.2.1,SY.2.2.2.2):=by kernel_rfl
theorem Qey:Qq F.tb KY 400 SZ.1 SZ.2.1 SZ.2.2.1=some (SZ.2.2.2.1,SZ.2.2.2.2):=by kernel_rfl
theorem Qez:Qq F.tb KZ 400 S0.1 S0.2.1 S0.2.2.1=some (S0.2.2.2.1,S0.2.2.2.2):=by kernel_rfl
theorem QeA:Qq F.tb K0 400 S1.1 S1.2.1 S1.2.2.1=some (S1.2.2.2.1,S1.2.2.2.2):=by kernel_rfl
end Go.Am
