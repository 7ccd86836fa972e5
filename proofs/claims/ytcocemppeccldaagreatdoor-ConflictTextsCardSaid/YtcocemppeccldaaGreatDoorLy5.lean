/- The results listed are right, one layer upon the other. -/
import Derived.Test.YtcocemppeccldaaGreatDoorMem
import Derived.KernelRfl
set_option linter.unusedVariables false
set_option linter.unusedSimpArgs false
section
set_option maxRecDepth 1000000
namespace Go.S32
open Go Go.Ai
theorem lay15 : (memo.allB fun f l => chkL (Ek 15) 10000 15 f l) = true := by kernel_rfl
end Go.S32
end
section
set_option maxRecDepth 1000000
namespace Go.S32
open Go Go.Ai
theorem lay16 : (memo.allB fun f l => chkL (Ek 16) 10000 16 f l) = true := by kernel_rfl
end Go.S32
end
section
set_option maxRecDepth 1000000
namespace Go.S32
open Go Go.Ai
theorem lay17 : (memo.allB fun f l => chkL (Ek 17) 10000 17 f l) = true := by kernel_rfl
end Go.S32
end
