/-
  EnM5.
-/
import Derived.Test.YtkikjgionglgaaaGreatDoorG23
set_option linter.unusedVariables false
set_option linter.unusedSimpArgs false
namespace Go.Am
theorem QdP:Qq F.tb Kb 400 Se.1 Se.2.1 Se.2.2.1=some (Se.2.2.2.1,Se.2.2.2.2):=by kernel_rfl
theorem QdQ:Qq F.tb Kc 400 Sf.1 Sf.2.1 Sf.2.2.1=some (Sf.2.2.2.1,Sf.2.2.2.2):=by kernel_rfl
theorem QdR:Qq F.tb Kd 400 Sg.1 Sg.2.1 Sg.2.2.1=some (Sg.2.2.2.1,Sg.2.2.2.2):=by kernel_rfl
theorem QdS:Qq F.tb Ke 400 Sh.1 Sh.2.1 Sh.2.2.1=some (Sh.2.2.2.1,Sh.2.2.2.2):=by kernel_rfl
theorem QdT:Qq F.tb Kf 400 Si.1 Si.2.1 Si.2.2.1=some (Si.2.2.2.1,Si.2.2.2.2):=by kernel_rfl
theorem QdU:Qq F.tb Kg 400 Sj.1 Sj.2.1 Sj.2.2.1=some (Sj.2.2.2.1,Sj.2.2.2.2):=by kernel_rfl
theorem QdV:Qq F.tb Kh 400 Sk.1 Sk.2.1 Sk.2.2.1=some (Sk.2.2.2.1,Sk.2.2.2.2):=by kernel_rfl
theorem QdW:Qq F.tb Ki 400 Sl.1 Sl.2.1 Sl.2.2.1=some (Sl.2.2.2.1,Sl.2.2.2.2):=by kernel_rfl
end Go.Am
