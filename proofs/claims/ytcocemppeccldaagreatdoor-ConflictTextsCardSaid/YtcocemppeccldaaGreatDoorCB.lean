/- Functions of the program are the abstract code that the tables give. -/
import Derived.Test.YtcocemppeccldaaGreatDoorEnv
import Derived.KernelRfl
import Derived.Test.YtcocemppeccldaaGreatDoorProg
set_option linter.unusedVariables false
set_option linter.unusedSimpArgs false
set_option maxRecDepth 1000000
namespace Go.S32
open Go Go.Ai Go.Proofs
theorem c4 : compF Tryz.prog md live 4 = some rf4 := by kernel_rfl
theorem c11 : compF Tryz.prog md live 11 = some rf11 := by kernel_rfl
theorem c18 : compF Tryz.prog md live 18 = some rf18 := by kernel_rfl
theorem c25 : compF Tryz.prog md live 25 = some rf25 := by kernel_rfl
theorem c32 : compF Tryz.prog md live 32 = some rf32 := by kernel_rfl
theorem c39 : compF Tryz.prog md live 39 = some rf39 := by kernel_rfl
theorem c46 : compF Tryz.prog md live 46 = some rf46 := by kernel_rfl
theorem c53 : compF Tryz.prog md live 53 = some rf53 := by kernel_rfl
theorem c60 : compF Tryz.prog md live 60 = some rf60 := by kernel_rfl
theorem c67 : compF Tryz.prog md live 67 = some rf67 := by kernel_rfl
theorem c75 : compF Tryz.prog md live 75 = some rf75 := by kernel_rfl
theorem c82 : compF Tryz.prog md live 82 = some rf82 := by kernel_rfl
theorem c90 : compF Tryz.prog md live 90 = some rf90 := by kernel_rfl
theorem c105 : compF Tryz.prog md live 105 = some rf105 := by kernel_rfl
theorem c112 : compF Tryz.prog md live 112 = some rf112 := by kernel_rfl
theorem c120 : compF Tryz.prog md live 120 = some rf120 := by kernel_rfl
theorem c130 : compF Tryz.prog md live 130 = some rf130 := by kernel_rfl
theorem c137 : compF Tryz.prog md live 137 = some rf137 := by kernel_rfl
theorem c144 : compF Tryz.prog md live 144 = some rf144 := by kernel_rfl
theorem c155 : compF Tryz.prog md live 155 = some rf155 := by kernel_rfl
theorem c164 : compF Tryz.prog md live 164 = some rf164 := by kernel_rfl
theorem c184 : compF Tryz.prog md live 184 = some rf184 := by kernel_rfl
theorem c195 : compF Tryz.prog md live 195 = some rf195 := by kernel_rfl
theorem c202 : compF Tryz.prog md live 202 = some rf202 := by kernel_rfl
theorem c213 : compF Tryz.prog md live 213 = some rf213 := by kernel_rfl
theorem c220 : compF Tryz.prog md live 220 = some rf220 := by kernel_rfl
theorem c228 : compF Tryz.prog md live 228 = some rf228 := by kernel_rfl
theorem c247 : compF Tryz.prog md live 247 = some rf247 := by kernel_rfl
theorem c256 : compF Tryz.prog md live 256 = some rf256 := by kernel_rfl
theorem c264 : compF Tryz.prog md live 264 = some rf264 := by kernel_rfl
theorem c271 : compF Tryz.prog md live 271 = some rf271 := by kernel_rfl
theorem c292 : compF Tryz.prog md live 292 = some rf292 := by kernel_rfl
theorem c299 : compF Tryz.prog md live 299 = some rf299 := by kernel_rfl
theorem c306 : compF Tryz.prog md live 306 = some rf306 := by kernel_rfl
theorem c334 : compF Tryz.prog md live 334 = some rf334 := by kernel_rfl
end Go.S32
