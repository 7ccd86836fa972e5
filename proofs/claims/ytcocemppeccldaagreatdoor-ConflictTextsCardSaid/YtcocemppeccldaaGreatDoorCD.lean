/- Functions of the program are the abstract code that the tables give. -/
import Derived.Test.YtcocemppeccldaaGreatDoorEnv
import Derived.KernelRfl
import Derived.Test.YtcocemppeccldaaGreatDoorProg
set_option linter.unusedVariables false
set_option linter.unusedSimpArgs false
set_option maxRecDepth 1000000
namespace Go.S32
open Go Go.Ai Go.Proofs
theorem c6 : compF Tryz.prog md live 6 = some rf6 := by kernel_rfl
theorem c13 : compF Tryz.prog md live 13 = some rf13 := by kernel_rfl
theorem c20 : compF Tryz.prog md live 20 = some rf20 := by kernel_rfl
theorem c27 : compF Tryz.prog md live 27 = some rf27 := by kernel_rfl
theorem c34 : compF Tryz.prog md live 34 = some rf34 := by kernel_rfl
theorem c41 : compF Tryz.prog md live 41 = some rf41 := by kernel_rfl
theorem c48 : compF Tryz.prog md live 48 = some rf48 := by kernel_rfl
theorem c55 : compF Tryz.prog md live 55 = some rf55 := by kernel_rfl
theorem c62 : compF Tryz.prog md live 62 = some rf62 := by kernel_rfl
theorem c69 : compF Tryz.prog md live 69 = some rf69 := by kernel_rfl
theorem c77 : compF Tryz.prog md live 77 = some rf77 := by kernel_rfl
theorem c84 : compF Tryz.prog md live 84 = some rf84 := by kernel_rfl
theorem c92 : compF Tryz.prog md live 92 = some rf92 := by kernel_rfl
theorem c107 : compF Tryz.prog md live 107 = some rf107 := by kernel_rfl
theorem c114 : compF Tryz.prog md live 114 = some rf114 := by kernel_rfl
theorem c125 : compF Tryz.prog md live 125 = some rf125 := by kernel_rfl
theorem c132 : compF Tryz.prog md live 132 = some rf132 := by kernel_rfl
theorem c139 : compF Tryz.prog md live 139 = some rf139 := by kernel_rfl
theorem c146 : compF Tryz.prog md live 146 = some rf146 := by kernel_rfl
theorem c157 : compF Tryz.prog md live 157 = some rf157 := by kernel_rfl
theorem c178 : compF Tryz.prog md live 178 = some rf178 := by kernel_rfl
theorem c190 : compF Tryz.prog md live 190 = some rf190 := by kernel_rfl
theorem c197 : compF Tryz.prog md live 197 = some rf197 := by kernel_rfl
theorem c204 : compF Tryz.prog md live 204 = some rf204 := by kernel_rfl
theorem c215 : compF Tryz.prog md live 215 = some rf215 := by kernel_rfl
theorem c222 : compF Tryz.prog md live 222 = some rf222 := by kernel_rfl
theorem c230 : compF Tryz.prog md live 230 = some rf230 := by kernel_rfl
theorem c250 : compF Tryz.prog md live 250 = some rf250 := by kernel_rfl
theorem c258 : compF Tryz.prog md live 258 = some rf258 := by kernel_rfl
theorem c266 : compF Tryz.prog md live 266 = some rf266 := by kernel_rfl
theorem c287 : compF Tryz.prog md live 287 = some rf287 := by kernel_rfl
theorem c294 : compF Tryz.prog md live 294 = some rf294 := by kernel_rfl
theorem c301 : compF Tryz.prog md live 301 = some rf301 := by kernel_rfl
theorem c329 : compF Tryz.prog md live 329 = some rf329 := by kernel_rfl
theorem c346 : compF Tryz.prog md live 346 = some rf346 := by kernel_rfl
end Go.S32
