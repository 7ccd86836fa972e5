/- Functions of the program are the abstract code that the tables give. -/
import Derived.Test.YtcocemppeccldaaGreatDoorEnv
import Derived.KernelRfl
import Derived.Test.YtcocemppeccldaaGreatDoorProg
set_option linter.unusedVariables false
set_option linter.unusedSimpArgs false
set_option maxRecDepth 1000000
namespace Go.S32
open Go Go.Ai Go.Proofs
theorem c9 : compF Tryz.prog md live 9 = some rf9 := by kernel_rfl
theorem c16 : compF Tryz.prog md live 16 = some rf16 := by kernel_rfl
theorem c23 : compF Tryz.prog md live 23 = some rf23 := by kernel_rfl
theorem c30 : compF Tryz.prog md live 30 = some rf30 := by kernel_rfl
theorem c37 : compF Tryz.prog md live 37 = some rf37 := by kernel_rfl
theorem c44 : compF Tryz.prog md live 44 = some rf44 := by kernel_rfl
theorem c51 : compF Tryz.prog md live 51 = some rf51 := by kernel_rfl
theorem c58 : compF Tryz.prog md live 58 = some rf58 := by kernel_rfl
theorem c65 : compF Tryz.prog md live 65 = some rf65 := by kernel_rfl
theorem c73 : compF Tryz.prog md live 73 = some rf73 := by kernel_rfl
theorem c80 : compF Tryz.prog md live 80 = some rf80 := by kernel_rfl
theorem c88 : compF Tryz.prog md live 88 = some rf88 := by kernel_rfl
theorem c100 : compF Tryz.prog md live 100 = some rf100 := by kernel_rfl
theorem c110 : compF Tryz.prog md live 110 = some rf110 := by kernel_rfl
theorem c118 : compF Tryz.prog md live 118 = some rf118 := by kernel_rfl
theorem c128 : compF Tryz.prog md live 128 = some rf128 := by kernel_rfl
theorem c135 : compF Tryz.prog md live 135 = some rf135 := by kernel_rfl
theorem c142 : compF Tryz.prog md live 142 = some rf142 := by kernel_rfl
theorem c149 : compF Tryz.prog md live 149 = some rf149 := by kernel_rfl
theorem c162 : compF Tryz.prog md live 162 = some rf162 := by kernel_rfl
theorem c181 : compF Tryz.prog md live 181 = some rf181 := by kernel_rfl
theorem c193 : compF Tryz.prog md live 193 = some rf193 := by kernel_rfl
theorem c200 : compF Tryz.prog md live 200 = some rf200 := by kernel_rfl
theorem c211 : compF Tryz.prog md live 211 = some rf211 := by kernel_rfl
theorem c218 : compF Tryz.prog md live 218 = some rf218 := by kernel_rfl
theorem c226 : compF Tryz.prog md live 226 = some rf226 := by kernel_rfl
theorem c237 : compF Tryz.prog md live 237 = some rf237 := by kernel_rfl
theorem c254 : compF Tryz.prog md live 254 = some rf254 := by kernel_rfl
theorem c262 : compF Tryz.prog md live 262 = some rf262 := by kernel_rfl
theorem c269 : compF Tryz.prog md live 269 = some rf269 := by kernel_rfl
theorem c290 : compF Tryz.prog md live 290 = some rf290 := by kernel_rfl
theorem c297 : compF Tryz.prog md live 297 = some rf297 := by kernel_rfl
theorem c304 : compF Tryz.prog md live 304 = some rf304 := by kernel_rfl
theorem c332 : compF Tryz.prog md live 332 = some rf332 := by kernel_rfl
theorem c352 : compF Tryz.prog md live 352 = some rf352 := by kernel_rfl
end Go.S32
