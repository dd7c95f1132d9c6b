/-
  ScM8.
-/
import Derived.Test.YtpgbndmkiiakaaaGreatDoorG26
set_option linter.unusedVariables false
set_option linter.unusedSimpArgs false
namespace Go.Am
theorem Qje:Qn F.tb Hg 400 Pb.1 Pb.2.1 Pb.2.2.1=some (Pb.2.2.2.1,Pb.2.2.2.2):=by kernel_rfl
theorem Qjf:Qn F.tb Hh 400 Pc.1 Pc.2.1 Pc.2.2.1=some (Pc.2.2.2.1,Pc.2.2.2.2):=by kernel_rfl
theorem Qjg:Qn F.tb Hi 400 Pd.1 Pd.2.1 Pd.2.2.1=some (Pd.2.2.2.1,Pd.2.2.2.2):=by kernel_rfl
theorem Qjh:Qn F.tb Hj 400 Pe.1 Pe.2.1 Pe.2.2.1=some (Pe.2.2.2.1,Pe.2.2.2.2):=by kernel_rfl
theorem Qji:Qn F.tb Hk 400 Pf.1 Pf.2.1 Pf.2.2.1=some (Pf.2.2.2.1,Pf.2.2.2.2):=by kernel_rfl
theorem Qjj:Qn F.tb Hl 400 Pg.1 Pg.2.1 Pg.2.2.1=some (Pg.2.2.2.1,Pg.2.2.2.2):=by kernel_rfl
theorem Qjk:Qn F.tb Hm 400 Ph.1 Ph.2.1 Ph.2.2.1=some (Ph.2.2.2.1,Ph.2.2.2.2):=by kernel_rfl
theorem Qjl:Qn F.tb Hn 400 Pi.1 Pi.2.1 Pi.2.2.1=some (Pi.2.2.2.1,Pi.2.2.2.2):=by kernel_rfl
end Go.Am
