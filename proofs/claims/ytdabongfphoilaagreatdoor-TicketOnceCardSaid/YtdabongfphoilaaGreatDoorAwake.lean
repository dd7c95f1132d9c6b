/-
  The pure land: the chapter's examples, run by the kernel.
-/
import Derived.Test.YtdabongfphoilaaGreatDoorMachF
import Derived.KernelRfl
set_option linter.unusedVariables false
set_option linter.unusedSimpArgs false

namespace Go.Am
theorem awakeN : callN F.tb 100 1 [] [] = some (.bool true, []) := by kernel_rfl
theorem call_awake : call F.tb 1 [] [] = some (.bool true, []) := call_iff.2 ⟨100, awakeN⟩
end Go.Am
