/- The results listed are right, one layer upon the other. -/
import Derived.Test.YtcocemppeccldaaGreatDoorMem
import Derived.KernelRfl
set_option linter.unusedVariables false
set_option linter.unusedSimpArgs false
section
set_option maxRecDepth 1000000
namespace Go.S32
open Go Go.Ai
theorem lay6 : (memo.allB fun f l => chkL (Ek 6) 10000 6 f l) = true := by kernel_rfl
end Go.S32
end
section
set_option maxRecDepth 1000000
namespace Go.S32
open Go Go.Ai
theorem lay7 : (memo.allB fun f l => chkL (Ek 7) 10000 7 f l) = true := by kernel_rfl
end Go.S32
end
section
set_option maxRecDepth 1000000
namespace Go.S32
open Go Go.Ai
theorem lay8 : (memo.allB fun f l => chkL (Ek 8) 10000 8 f l) = true := by kernel_rfl
end Go.S32
end
