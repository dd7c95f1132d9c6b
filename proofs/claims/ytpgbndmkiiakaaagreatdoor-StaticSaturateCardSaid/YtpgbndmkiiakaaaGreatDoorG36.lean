/-
  ScM9.
-/
import Derived.Test.YtpgbndmkiiakaaaGreatDoorG26
set_option linter.unusedVariables false
set_option linter.unusedSimpArgs false
namespace Go.Am
theorem Qjm:Qn F.tb Ho 400 Pj.1 Pj.2.1 Pj.2.2.1=some (Pj.2.2.2.1,Pj.2.2.2.2):=by kernel_rfl
theorem Qjn:Qn F.tb Hp 400 Pk.1 Pk.2.1 Pk.2.2.1=some (Pk.2.2.2.1,Pk.2.2.2.2):=by kernel_rfl
theorem Qjo:Qn F.tb Hq 400 Pm.1 Pm.2.1 Pm.2.2.1=some (Pm.2.2.2.1,Pm.2.2.2.2):=by kernel_rfl
theorem Qjp:Qn F.tb Hr 400 Pn.1 Pn.2.1 Pn.2.2.1=some (Pn.2.2.2.1,Pn.2.2.2.2):=by kernel_rfl
theorem Qjq:Qn F.tb Hs 400 Po.1 Po.2.1 Po.2.2.1=some (Po.2.2.2.1,Po.2.2.2.2):=by kernel_rfl
theorem Qjr:Qn F.tb Ht 400 Pp.1 Pp.2.1 Pp.2.2.1=some (Pp.2.2.2.1,Pp.2.2.2.2):=by kernel_rfl
theorem Qjs:Qn F.tb Hu 400 Pq.1 Pq.2.1 Pq.2.2.1=some (Pq.2.2.2.1,Pq.2.2.2.2):=by kernel_rfl
theorem Qjt:Qn F.tb Hv 400 Pr.1 Pr.2.1 Pr.2.2.1=some (Pr.2.2.2.1,Pr.2.2.2.2):=by kernel_rfl
end Go.Am
