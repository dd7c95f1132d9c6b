/-
  ScM2.
-/
import Derived.Test.YtpgbndmkiiakaaaGreatDoorG27
set_option linter.unusedVariables false
set_option linter.unusedSimpArgs false
namespace Go.Am
theorem Qk0:Qn F.tb Gm 400 Pn.1 Pn.2.1 Pn.2.2.1=some (Pn.2.2.2.1,Pn.2.2.2.2):=by kernel_rfl
theorem Qk1:Qn F.tb Gn 400 Po.1 Po.2.1 Po.2.2.1=some (Po.2.2.2.1,Po.2.2.2.2):=by kernel_rfl
theorem Qk2:Qn F.tb Gp 400 Pp.1 Pp.2.1 Pp.2.2.1=some (Pp.2.2.2.1,Pp.2.2.2.2):=by kernel_rfl
theorem Qk3:Qn F.tb Gq 400 Pq.1 Pq.2.1 Pq.2.2.1=some (Pq.2.2.2.1,Pq.2.2.2.2):=by kernel_rfl
theorem Qk4:Qn F.tb Gr 400 Pr.1 Pr.2.1 Pr.2.2.1=some (Pr.2.2.2.1,Pr.2.2.2.2):=by kernel_rfl
theorem Qk5:Qn F.tb Gs 400 Ps.1 Ps.2.1 Ps.2.2.1=some (Ps.2.2.2.1,Ps.2.2.2.2):=by kernel_rfl
theorem Qk6:Qn F.tb Gt 400 Pt.1 Pt.2.1 Pt.2.2.1=some (Pt.2.2.2.1,Pt.2.2.2.2):=by kernel_rfl
theorem Qk7:Qn F.tb Gu 400 Pu.1 Pu.2.1 Pu.2.2.1=some (Pu.2.2.2.1,Pu.2.2.2.2):=by kernel_rfl
end Go.Am
