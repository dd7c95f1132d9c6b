/-
  ScM1.
-/
import Derived.Test.YtpgbndmkiiakaaaGreatDoorG27
set_option linter.unusedVariables false
set_option linter.unusedSimpArgs false
namespace Go.Am
theorem QnW:Qn F.tb AH 400 Lh.1 Lh.2.1 Lh.2.2.1=some (Lh.2.2.2.1,Lh.2.2.2.2):=by kernel_rfl
theorem QnX:Qn F.tb AJ 400 Li.1 Li.2.1 Li.2.2.1=some (Li.2.2.2.1,Li.2.2.2.2):=by kernel_rfl
theorem QkU:Qn F.tb Gg 400 Pg.1 Pg.2.1 Pg.2.2.1=some (Pg.2.2.2.1,Pg.2.2.2.2):=by kernel_rfl
theorem QkV:Qn F.tb Gh 400 Ph.1 Ph.2.1 Ph.2.2.1=some (Ph.2.2.2.1,Ph.2.2.2.2):=by kernel_rfl
theorem QkW:Qn F.tb Gi 400 Pi.1 Pi.2.1 Pi.2.2.1=some (Pi.2.2.2.1,Pi.2.2.2.2):=by kernel_rfl
theorem QkX:Qn F.tb Gj 400 Pj.1 Pj.2.1 Pj.2.2.1=some (Pj.2.2.2.1,Pj.2.2.2.2):=by kernel_rfl
theorem QkY:Qn F.tb Gk 400 Pk.1 Pk.2.1 Pk.2.2.1=some (Pk.2.2.2.1,Pk.2.2.2.2):=by kernel_rfl
theorem QkZ:Qn F.tb Gl 400 Pm.1 Pm.2.1 Pm.2.2.1=some (Pm.2.2.2.1,Pm.2.2.2.2):=by kernel_rfl
end Go.Am
