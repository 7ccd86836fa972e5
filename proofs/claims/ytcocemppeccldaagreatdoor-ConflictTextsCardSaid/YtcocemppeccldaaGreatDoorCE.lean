/- Functions of the program are the abstract code that the tables give. -/
import Derived.Test.YtcocemppeccldaaGreatDoorEnv
import Derived.KernelRfl
import Derived.Test.YtcocemppeccldaaGreatDoorProg
set_option linter.unusedVariables false
set_option linter.unusedSimpArgs false
set_option maxRecDepth 1000000
namespace Go.S32
open Go Go.Ai Go.Proofs
theorem c7 : compF Tryz.prog md live 7 = some rf7 := by kernel_rfl
theorem c14 : compF Tryz.prog md live 14 = some rf14 := by kernel_rfl
theorem c21 : compF Tryz.prog md live 21 = some rf21 := by kernel_rfl
theorem c28 : compF Tryz.prog md live 28 = some rf28 := by kernel_rfl
theorem c35 : compF Tryz.prog md live 35 = some rf35 := by kernel_rfl
theorem c42 : compF Tryz.prog md live 42 = some rf42 := by kernel_rfl
theorem c49 : compF Tryz.prog md live 49 = some rf49 := by kernel_rfl
theorem c56 : compF Tryz.prog md live 56 = some rf56 := by kernel_rfl
theorem c63 : compF Tryz.prog md live 63 = some rf63 := by kernel_rfl
theorem c71 : compF Tryz.prog md live 71 = some rf71 := by kernel_rfl
theorem c78 : compF Tryz.prog md live 78 = some rf78 := by kernel_rfl
theorem c85 : compF Tryz.prog md live 85 = some rf85 := by kernel_rfl
theorem c93 : compF Tryz.prog md live 93 = some rf93 := by kernel_rfl
theorem c108 : compF Tryz.prog md live 108 = some rf108 := by kernel_rfl
theorem c116 : compF Tryz.prog md live 116 = some rf116 := by kernel_rfl
theorem c126 : compF Tryz.prog md live 126 = some rf126 := by kernel_rfl
theorem c133 : compF Tryz.prog md live 133 = some rf133 := by kernel_rfl
theorem c140 : compF Tryz.prog md live 140 = some rf140 := by kernel_rfl
theorem c147 : compF Tryz.prog md live 147 = some rf147 := by kernel_rfl
theorem c158 : compF Tryz.prog md live 158 = some rf158 := by kernel_rfl
theorem c179 : compF Tryz.prog md live 179 = some rf179 := by kernel_rfl
theorem c191 : compF Tryz.prog md live 191 = some rf191 := by kernel_rfl
theorem c198 : compF Tryz.prog md live 198 = some rf198 := by kernel_rfl
theorem c205 : compF Tryz.prog md live 205 = some rf205 := by kernel_rfl
theorem c216 : compF Tryz.prog md live 216 = some rf216 := by kernel_rfl
theorem c224 : compF Tryz.prog md live 224 = some rf224 := by kernel_rfl
theorem c235 : compF Tryz.prog md live 235 = some rf235 := by kernel_rfl
theorem c251 : compF Tryz.prog md live 251 = some rf251 := by kernel_rfl
theorem c259 : compF Tryz.prog md live 259 = some rf259 := by kernel_rfl
theorem c267 : compF Tryz.prog md live 267 = some rf267 := by kernel_rfl
theorem c288 : compF Tryz.prog md live 288 = some rf288 := by kernel_rfl
theorem c295 : compF Tryz.prog md live 295 = some rf295 := by kernel_rfl
theorem c302 : compF Tryz.prog md live 302 = some rf302 := by kernel_rfl
theorem c330 : compF Tryz.prog md live 330 = some rf330 := by kernel_rfl
theorem c347 : compF Tryz.prog md live 347 = some rf347 := by kernel_rfl
end Go.S32
