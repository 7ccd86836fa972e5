/- The results listed are right, one layer upon the other. -/
import Derived.Test.YtcocemppeccldaaGreatDoorMem
import Derived.KernelRfl
set_option linter.unusedVariables false
set_option linter.unusedSimpArgs false
section
set_option maxRecDepth 1000000
namespace Go.S32
open Go Go.Ai
theorem lay0 : (memo.allB fun f l => chkL (Ek 0) 10000 0 f l) = true := by kernel_rfl
end Go.S32
end
section
set_option maxRecDepth 1000000
namespace Go.S32
open Go Go.Ai
theorem lay1 : (memo.allB fun f l => chkL (Ek 1) 10000 1 f l) = true := by kernel_rfl
end Go.S32
end
section
set_option maxRecDepth 1000000
namespace Go.S32
open Go Go.Ai
theorem lay2 : (memo.allB fun f l => chkL (Ek 2) 10000 2 f l) = true := by kernel_rfl
end Go.S32
end
