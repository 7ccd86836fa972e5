/- The results listed are right, one layer upon the other. -/
import Derived.Test.YtcocemppeccldaaGreatDoorMem
import Derived.KernelRfl
set_option linter.unusedVariables false
set_option linter.unusedSimpArgs false
section
set_option maxRecDepth 1000000
namespace Go.S32
open Go Go.Ai
theorem lay3 : (memo.allB fun f l => chkL (Ek 3) 10000 3 f l) = true := by kernel_rfl
end Go.S32
end
section
set_option maxRecDepth 1000000
namespace Go.S32
open Go Go.Ai
theorem lay4 : (memo.allB fun f l => chkL (Ek 4) 10000 4 f l) = true := by kernel_rfl
end Go.S32
end
section
set_option maxRecDepth 1000000
namespace Go.S32
open Go Go.Ai
theorem lay5 : (memo.allB fun f l => chkL (Ek 5) 10000 5 f l) = true := by kernel_rfl
end Go.S32
end
