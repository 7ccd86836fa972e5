/-
  DERIVED. GIVEN WITH THE SEED: THE CARDS: each row of YtcocemppeccldaaGreatDoorRows.lean that lists a variable, with what it lists TIED to the program's text (the seventh form; the later family's looks); each row that meets fmt, with fmt's text TOLD by the authors' own Lean function (tested against real Go, not proved from fmt's source: count such statements apart). THE CARD IS WHAT COUNTS. Prove the row's statement (the work); the ties are given (YtcocemppeccldaaGreatDoorTie.lean); close each card by the builder's one call (the guide's Derived/Test/ToyasCard.lean, 'card_holds'). Laid BY PROGRAM, IN A SANDBOX (cutbox-door.mjs). By AI agents, Wed Nov 11 2026. No macro, syntax, notation, axiom, sorry.
-/
import Derived.Test.YtcocemppeccldaaGreatDoorRows
import GoSem.ClaimSeven
namespace Go.Proofs.YtcocemppeccldaaGreatDoor
namespace Rows

/-- THE TIED CARD OF 'kalendslaw32.ConflictTexts'. -/
def conflictTextsCard : Claim7 := { stood := { row := conflictTextsRow, standIns := [], harness := (true, "6575f36fa1cd95075ca3311b3206a9bf0708411f3aba605c091be16bfe84fe5f"), looks := false }, kinds := [], alts := [], laidByText := true, laidKinds := [.data, .data, .data], laidTests := true, laidLooks := .later }
def ConflictTextsCardSaid : Prop := Claim7.holds Tryz.pinned (.plain (OpenSpec.ofChange conflictTextsSpec)) conflictTextsCard

/-- THE SECOND FORM's CARD OF 'kalendslaw32.ConflictTexts'. -/
def conflictTextsUptoCard : Claim7 := { stood := { row := conflictTextsUptoRow, standIns := [], harness := (true, "6575f36fa1cd95075ca3311b3206a9bf0708411f3aba605c091be16bfe84fe5f"), looks := false }, kinds := [], alts := [], laidByText := true, laidKinds := [.data, .data, .data], laidTests := true, laidLooks := .later }
def ConflictTextsUptoCardSaid : Prop := Claim7.holds Tryz.pinned (.plain (OpenSpec.upto conflictTextsSpec)) conflictTextsUptoCard
end Rows
end Go.Proofs.YtcocemppeccldaaGreatDoor
