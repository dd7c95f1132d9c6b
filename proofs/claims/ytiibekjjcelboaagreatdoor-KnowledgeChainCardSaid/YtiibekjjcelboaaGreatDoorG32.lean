/-
  KnN6.
-/
import Derived.Test.YtiibekjjcelboaaGreatDoorG25
set_option linter.unusedVariables false
set_option linter.unusedSimpArgs false
namespace Go.Am
theorem Qe8:QQ F.tb Ki 400 Sw.1 Sw.2.1 Sw.2.2.1=some (Sw.2.2.2.1,Sw.2.2.2.2):=by kernel_rfl
theorem Qe9:QQ F.tb Kj 400 Sx.1 Sx.2.1 Sx.2.2.1=some (Sx.2.2.2.1,Sx.2.2.2.2):=by kernel_rfl
theorem Qfa:QQ F.tb Kk 400 Sz.1 Sz.2.1 Sz.2.2.1=some (Sz.2.2.2.1,Sz.2.2.2.2):=by kernel_rfl
theorem Qfb:QQ F.tb Kl 400 SA.1 SA.2.1 SA.2.2.1=some (SA.2.2.2.1,SA.2.2.2.2):=by kernel_rfl
end Go.Am
