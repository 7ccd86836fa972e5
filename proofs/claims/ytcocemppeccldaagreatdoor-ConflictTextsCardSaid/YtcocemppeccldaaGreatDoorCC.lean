/- Functions of the program are the abstract code that the tables give. -/
import Derived.Test.YtcocemppeccldaaGreatDoorEnv
import Derived.KernelRfl
import Derived.Test.YtcocemppeccldaaGreatDoorProg
set_option linter.unusedVariables false
set_option linter.unusedSimpArgs false
set_option maxRecDepth 1000000
namespace Go.S32
open Go Go.Ai Go.Proofs
theorem c5 : compF Tryz.prog md live 5 = some rf5 := by kernel_rfl
theorem c12 : compF Tryz.prog md live 12 = some rf12 := by kernel_rfl
theorem c19 : compF Tryz.prog md live 19 = some rf19 := by kernel_rfl
theorem c26 : compF Tryz.prog md live 26 = some rf26 := by kernel_rfl
theorem c33 : compF Tryz.prog md live 33 = some rf33 := by kernel_rfl
theorem c40 : compF Tryz.prog md live 40 = some rf40 := by kernel_rfl
theorem c47 : compF Tryz.prog md live 47 = some rf47 := by kernel_rfl
theorem c54 : compF Tryz.prog md live 54 = some rf54 := by kernel_rfl
theorem c61 : compF Tryz.prog md live 61 = some rf61 := by kernel_rfl
theorem c68 : compF Tryz.prog md live 68 = some rf68 := by kernel_rfl
theorem c76 : compF Tryz.prog md live 76 = some rf76 := by kernel_rfl
theorem c83 : compF Tryz.prog md live 83 = some rf83 := by kernel_rfl
theorem c91 : compF Tryz.prog md live 91 = some rf91 := by kernel_rfl
theorem c106 : compF Tryz.prog md live 106 = some rf106 := by kernel_rfl
theorem c113 : compF Tryz.prog md live 113 = some rf113 := by kernel_rfl
theorem c124 : compF Tryz.prog md live 124 = some rf124 := by kernel_rfl
theorem c131 : compF Tryz.prog md live 131 = some rf131 := by kernel_rfl
theorem c138 : compF Tryz.prog md live 138 = some rf138 := by kernel_rfl
theorem c145 : compF Tryz.prog md live 145 = some rf145 := by kernel_rfl
theorem c156 : compF Tryz.prog md live 156 = some rf156 := by kernel_rfl
theorem c177 : compF Tryz.prog md live 177 = some rf177 := by kernel_rfl
theorem c185 : compF Tryz.prog md live 185 = some rf185 := by kernel_rfl
theorem c196 : compF Tryz.prog md live 196 = some rf196 := by kernel_rfl
theorem c203 : compF Tryz.prog md live 203 = some rf203 := by kernel_rfl
theorem c214 : compF Tryz.prog md live 214 = some rf214 := by kernel_rfl
theorem c221 : compF Tryz.prog md live 221 = some rf221 := by kernel_rfl
theorem c229 : compF Tryz.prog md live 229 = some rf229 := by kernel_rfl
theorem c249 : compF Tryz.prog md live 249 = some rf249 := by kernel_rfl
theorem c257 : compF Tryz.prog md live 257 = some rf257 := by kernel_rfl
theorem c265 : compF Tryz.prog md live 265 = some rf265 := by kernel_rfl
theorem c273 : compF Tryz.prog md live 273 = some rf273 := by kernel_rfl
theorem c293 : compF Tryz.prog md live 293 = some rf293 := by kernel_rfl
theorem c300 : compF Tryz.prog md live 300 = some rf300 := by kernel_rfl
theorem c320 : compF Tryz.prog md live 320 = some rf320 := by kernel_rfl
theorem c337 : compF Tryz.prog md live 337 = some rf337 := by kernel_rfl
end Go.S32
