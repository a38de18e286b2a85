/-
  DERIVED. GIVEN WITH THE SEED: THE CARDS: each row of YtnhgdcgeehcebaaGreatDoorRows.lean that lists a variable, with what it lists TIED to the program's text (the seventh form; the later family's looks); each row that meets fmt, with fmt's text TOLD by the authors' own Lean function (tested against real Go, not proved from fmt's source: count such statements apart). THE CARD IS WHAT COUNTS. Prove the row's statement (the work); the ties are given (YtnhgdcgeehcebaaGreatDoorTie.lean); close each card by the builder's one call (the guide's Derived/Test/ToyasCard.lean, 'card_holds'). Laid BY PROGRAM, IN A SANDBOX (cutbox-door.mjs). By AI agents, Wed Nov 11 2026. No macro, syntax, notation, axiom, sorry.
-/
import Derived.Test.YtnhgdcgeehcebaaGreatDoorRows
import GoSem.ClaimSeven
namespace Go.Proofs.YtnhgdcgeehcebaaGreatDoor
namespace Rows

/-- THE TIED CARD OF 'obelisktop.TopTree'. -/
def topTreeCard : Claim7 := { stood := { row := topTreeRow, standIns := [], harness := (true, "5c1dc0a0e6dc8ffbebb5af08823cf3a9dff7c56761bf3d0e419ad7cd68350a1b"), looks := false }, kinds := [], alts := [], laidByText := true, laidKinds := [.data, .data, .data, .data, .pinned], laidTests := true, laidLooks := .later }
def TopTreeCardSaid : Prop := Claim7.holds Tryz.pinned (.plain (OpenSpec.ofChange topTreeSpec)) topTreeCard

/-- THE SECOND FORM's CARD OF 'obelisktop.TopTree'. -/
def topTreeUptoCard : Claim7 := { stood := { row := topTreeUptoRow, standIns := [], harness := (true, "5c1dc0a0e6dc8ffbebb5af08823cf3a9dff7c56761bf3d0e419ad7cd68350a1b"), looks := false }, kinds := [], alts := [], laidByText := true, laidKinds := [.data, .data, .data, .data, .pinned], laidTests := true, laidLooks := .later }
def TopTreeUptoCardSaid : Prop := Claim7.holds Tryz.pinned (.plain (OpenSpec.upto topTreeSpec)) topTreeUptoCard
end Rows
end Go.Proofs.YtnhgdcgeehcebaaGreatDoor
