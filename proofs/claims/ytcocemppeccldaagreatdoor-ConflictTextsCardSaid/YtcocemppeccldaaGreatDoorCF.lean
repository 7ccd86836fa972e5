/- Functions of the program are the abstract code that the tables give. -/
import Derived.Test.YtcocemppeccldaaGreatDoorEnv
import Derived.KernelRfl
import Derived.Test.YtcocemppeccldaaGreatDoorProg
set_option linter.unusedVariables false
set_option linter.unusedSimpArgs false
set_option maxRecDepth 1000000
namespace Go.S32
open Go Go.Ai Go.Proofs
theorem c8 : compF Tryz.prog md live 8 = some rf8 := by kernel_rfl
theorem c15 : compF Tryz.prog md live 15 = some rf15 := by kernel_rfl
theorem c22 : compF Tryz.prog md live 22 = some rf22 := by kernel_rfl
theorem c29 : compF Tryz.prog md live 29 = some rf29 := by kernel_rfl
theorem c36 : compF Tryz.prog md live 36 = some rf36 := by kernel_rfl
theorem c43 : compF Tryz.prog md live 43 = some rf43 := by kernel_rfl
theorem c50 : compF Tryz.prog md live 50 = some rf50 := by kernel_rfl
theorem c57 : compF Tryz.prog md live 57 = some rf57 := by kernel_rfl
theorem c64 : compF Tryz.prog md live 64 = some rf64 := by kernel_rfl
theorem c72 : compF Tryz.prog md live 72 = some rf72 := by kernel_rfl
theorem c79 : compF Tryz.prog md live 79 = some rf79 := by kernel_rfl
theorem c86 : compF Tryz.prog md live 86 = some rf86 := by kernel_rfl
theorem c94 : compF Tryz.prog md live 94 = some rf94 := by kernel_rfl
theorem c109 : compF Tryz.prog md live 109 = some rf109 := by kernel_rfl
theorem c117 : compF Tryz.prog md live 117 = some rf117 := by kernel_rfl
theorem c127 : compF Tryz.prog md live 127 = some rf127 := by kernel_rfl
theorem c134 : compF Tryz.prog md live 134 = some rf134 := by kernel_rfl
theorem c141 : compF Tryz.prog md live 141 = some rf141 := by kernel_rfl
theorem c148 : compF Tryz.prog md live 148 = some rf148 := by kernel_rfl
theorem c160 : compF Tryz.prog md live 160 = some rf160 := by kernel_rfl
theorem c180 : compF Tryz.prog md live 180 = some rf180 := by kernel_rfl
theorem c192 : compF Tryz.prog md live 192 = some rf192 := by kernel_rfl
theorem c199 : compF Tryz.prog md live 199 = some rf199 := by kernel_rfl
theorem c206 : compF Tryz.prog md live 206 = some rf206 := by kernel_rfl
theorem c217 : compF Tryz.prog md live 217 = some rf217 := by kernel_rfl
theorem c225 : compF Tryz.prog md live 225 = some rf225 := by kernel_rfl
theorem c236 : compF Tryz.prog md live 236 = some rf236 := by kernel_rfl
theorem c252 : compF Tryz.prog md live 252 = some rf252 := by kernel_rfl
theorem c261 : compF Tryz.prog md live 261 = some rf261 := by kernel_rfl
theorem c268 : compF Tryz.prog md live 268 = some rf268 := by kernel_rfl
theorem c289 : compF Tryz.prog md live 289 = some rf289 := by kernel_rfl
theorem c296 : compF Tryz.prog md live 296 = some rf296 := by kernel_rfl
theorem c303 : compF Tryz.prog md live 303 = some rf303 := by kernel_rfl
theorem c331 : compF Tryz.prog md live 331 = some rf331 := by kernel_rfl
theorem c348 : compF Tryz.prog md live 348 = some rf348 := by kernel_rfl
end Go.S32
