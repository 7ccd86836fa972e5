/- Functions of the program are the abstract code that the tables give. -/
import Derived.Test.YtcocemppeccldaaGreatDoorEnv
import Derived.KernelRfl
import Derived.Test.YtcocemppeccldaaGreatDoorProg
set_option linter.unusedVariables false
set_option linter.unusedSimpArgs false
set_option maxRecDepth 1000000
namespace Go.S32
open Go Go.Ai Go.Proofs
theorem c3 : compF Tryz.prog md live 3 = some rf3 := by kernel_rfl
theorem c10 : compF Tryz.prog md live 10 = some rf10 := by kernel_rfl
theorem c17 : compF Tryz.prog md live 17 = some rf17 := by kernel_rfl
theorem c24 : compF Tryz.prog md live 24 = some rf24 := by kernel_rfl
theorem c31 : compF Tryz.prog md live 31 = some rf31 := by kernel_rfl
theorem c38 : compF Tryz.prog md live 38 = some rf38 := by kernel_rfl
theorem c45 : compF Tryz.prog md live 45 = some rf45 := by kernel_rfl
theorem c52 : compF Tryz.prog md live 52 = some rf52 := by kernel_rfl
theorem c59 : compF Tryz.prog md live 59 = some rf59 := by kernel_rfl
theorem c66 : compF Tryz.prog md live 66 = some rf66 := by kernel_rfl
theorem c74 : compF Tryz.prog md live 74 = some rf74 := by kernel_rfl
theorem c81 : compF Tryz.prog md live 81 = some rf81 := by kernel_rfl
theorem c89 : compF Tryz.prog md live 89 = some rf89 := by kernel_rfl
theorem c104 : compF Tryz.prog md live 104 = some rf104 := by kernel_rfl
theorem c111 : compF Tryz.prog md live 111 = some rf111 := by kernel_rfl
theorem c119 : compF Tryz.prog md live 119 = some rf119 := by kernel_rfl
theorem c129 : compF Tryz.prog md live 129 = some rf129 := by kernel_rfl
theorem c136 : compF Tryz.prog md live 136 = some rf136 := by kernel_rfl
theorem c143 : compF Tryz.prog md live 143 = some rf143 := by kernel_rfl
theorem c150 : compF Tryz.prog md live 150 = some rf150 := by kernel_rfl
theorem c163 : compF Tryz.prog md live 163 = some rf163 := by kernel_rfl
theorem c183 : compF Tryz.prog md live 183 = some rf183 := by kernel_rfl
theorem c194 : compF Tryz.prog md live 194 = some rf194 := by kernel_rfl
theorem c201 : compF Tryz.prog md live 201 = some rf201 := by kernel_rfl
theorem c212 : compF Tryz.prog md live 212 = some rf212 := by kernel_rfl
theorem c219 : compF Tryz.prog md live 219 = some rf219 := by kernel_rfl
theorem c227 : compF Tryz.prog md live 227 = some rf227 := by kernel_rfl
theorem c240 : compF Tryz.prog md live 240 = some rf240 := by kernel_rfl
theorem c255 : compF Tryz.prog md live 255 = some rf255 := by kernel_rfl
theorem c263 : compF Tryz.prog md live 263 = some rf263 := by kernel_rfl
theorem c270 : compF Tryz.prog md live 270 = some rf270 := by kernel_rfl
theorem c291 : compF Tryz.prog md live 291 = some rf291 := by kernel_rfl
theorem c298 : compF Tryz.prog md live 298 = some rf298 := by kernel_rfl
theorem c305 : compF Tryz.prog md live 305 = some rf305 := by kernel_rfl
theorem c333 : compF Tryz.prog md live 333 = some rf333 := by kernel_rfl
end Go.S32
