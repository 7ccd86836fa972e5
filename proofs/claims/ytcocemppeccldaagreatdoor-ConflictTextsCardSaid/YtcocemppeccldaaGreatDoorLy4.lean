/- The results listed are right, one layer upon the other. -/
import Derived.Test.YtcocemppeccldaaGreatDoorMem
import Derived.KernelRfl
set_option linter.unusedVariables false
set_option linter.unusedSimpArgs false
section
set_option maxRecDepth 1000000
namespace Go.S32
open Go Go.Ai
theorem lay12 : (memo.allB fun f l => chkL (Ek 12) 10000 12 f l) = true := by kernel_rfl
end Go.S32
end
section
set_option maxRecDepth 1000000
namespace Go.S32
open Go Go.Ai
theorem lay13 : (memo.allB fun f l => chkL (Ek 13) 10000 13 f l) = true := by kernel_rfl
end Go.S32
end
section
set_option maxRecDepth 1000000
namespace Go.S32
open Go Go.Ai
theorem lay14 : (memo.allB fun f l => chkL (Ek 14) 10000 14 f l) = true := by kernel_rfl
end Go.S32
end
