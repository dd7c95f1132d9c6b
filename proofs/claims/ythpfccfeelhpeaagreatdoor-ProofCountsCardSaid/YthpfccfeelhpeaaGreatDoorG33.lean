/-
  PfM14.
-/
import Derived.Test.YthpfccfeelhpeaaGreatDoorG18
set_option linter.all false
open Go.Am.F
namespace Go.Am
def Ax:QD tb Hy Mp=some Mp.2.2.2:=by kernel_rfl
def Ay:QD tb Hz Mq=some Mq.2.2.2:=by kernel_rfl
def Az:QD tb HA Mr=some Mr.2.2.2:=by kernel_rfl
def AA:QD tb HB Ms=some Ms.2.2.2:=by kernel_rfl
def AB:QD tb HC Mt=some Mt.2.2.2:=by kernel_rfl
def AD:QD tb HD Mu=some Mu.2.2.2:=by kernel_rfl
end Go.Am
