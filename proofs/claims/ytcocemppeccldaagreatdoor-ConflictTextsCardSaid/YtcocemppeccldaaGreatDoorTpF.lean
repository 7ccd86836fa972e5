/- Closed facts on the program. -/
import Derived.Test.YtcocemppeccldaaGreatDoorTpE
set_option linter.unusedVariables false
set_option linter.unusedSimpArgs false
set_option maxRecDepth 100000
namespace Go.Proofs.YtcocemppeccldaaGreatDoor.conflictTexts
open Go.ChangeShapes Go.WideShapes Go.ChangeAt Go.RowKit Go.S32

/-! ### closed facts on the program, each by itself: all at once they want too much memory -/
theorem j2 : laidOutB Tryz.prog = true := by kernel_rfl
theorem j3 : mapsRowed Tryz.prog = true := by kernel_rfl
theorem j10 : (Rows.conflictTextsRow.inPlace == Tryz.prog.inPlace 3) = true := by kernel_rfl
theorem j11 : (Rows.conflictTextsRow.unfollowed == Tryz.prog.unfollowed 3) = true := by kernel_rfl
theorem j12 : (Rows.conflictTextsRow.recurses == Tryz.prog.recurses 3) = true := by kernel_rfl
theorem j13 : (Rows.conflictTextsRow.named == Tryz.prog.varsNamed 3) = true := by kernel_rfl
theorem j25 : Tryz.prog.stopsHeard = true := by kernel_rfl
theorem j26 : Tryz.prog.mayEnter = true := by kernel_rfl

theorem a2 {a b : Bool} (ha : a = true) (hb : b = true) : (a && b) = true := by
  subst ha
  exact hb

theorem joined : joinedFacts Tryz.prog 3 Tryz.f3 Rows.conflictTextsSpec Rows.conflictTextsRow = true := by
  unfold joinedFacts
  exact (a2 (a2 (a2 (a2 (a2 (a2 (a2 (a2 (a2 (a2 (a2 (a2 (a2 (a2 (a2 (a2 (a2 (a2 (a2 (a2 (a2 (a2 (a2 (a2 (a2 (a2 (a2 (a2 (a2 (a2 (a2 (by kernel_rfl) j2) j3) (by kernel_rfl)) (by kernel_rfl)) (by kernel_rfl)) (by kernel_rfl)) (by kernel_rfl)) (by kernel_rfl)) j10) j11) j12) j13) (by kernel_rfl)) (by kernel_rfl)) (by kernel_rfl)) (by kernel_rfl)) (by kernel_rfl)) (by kernel_rfl)) (by kernel_rfl)) (by kernel_rfl)) (by kernel_rfl)) (by kernel_rfl)) (by kernel_rfl)) j25) j26) (by kernel_rfl)) (by kernel_rfl)) (by kernel_rfl)) (by kernel_rfl)) (by kernel_rfl)) (by kernel_rfl))

end Go.Proofs.YtcocemppeccldaaGreatDoor.conflictTexts
