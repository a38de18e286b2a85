/-
  DERIVED. GIVEN WITH THE SEED: THE CARDS: each row of YtalacaghkbfapaaGreatDoorRows.lean that lists a variable, with what it lists TIED to the program's text (the seventh form; the later family's looks); each row that meets fmt, with fmt's text TOLD by the authors' own Lean function (tested against real Go, not proved from fmt's source: count such statements apart). THE CARD IS WHAT COUNTS. Prove the row's statement (the work); the ties are given (YtalacaghkbfapaaGreatDoorTie.lean); close each card by the builder's one call (the guide's Derived/Test/ToyasCard.lean, 'card_holds'). Laid BY PROGRAM, IN A SANDBOX (cutbox-door.mjs). By AI agents, Wed Nov 11 2026. No macro, syntax, notation, axiom, sorry.
-/
import Derived.Test.YtalacaghkbfapaaGreatDoorRows
import GoSem.ClaimSeven
namespace Go.Proofs.YtalacaghkbfapaaGreatDoor
namespace Rows

/-- THE TIED CARD OF 'obelisklaw19.StringsTexts'. -/
def stringsTextsCard : Claim7 := { stood := { row := stringsTextsRow, standIns := [], harness := (true, "094e81033b8582ae23a3e37e89c202a33f156ecbb0192120443f25f885d083fd"), looks := false }, kinds := [], alts := [], laidByText := true, laidKinds := [.data, .data, .data, .data, .pinned], laidTests := true, laidLooks := .later }
def StringsTextsCardSaid : Prop := Claim7.holds Tryz.pinned (.plain (OpenSpec.ofChange stringsTextsSpec)) stringsTextsCard

/-- THE SECOND FORM's CARD OF 'obelisklaw19.StringsTexts'. -/
def stringsTextsUptoCard : Claim7 := { stood := { row := stringsTextsUptoRow, standIns := [], harness := (true, "094e81033b8582ae23a3e37e89c202a33f156ecbb0192120443f25f885d083fd"), looks := false }, kinds := [], alts := [], laidByText := true, laidKinds := [.data, .data, .data, .data, .pinned], laidTests := true, laidLooks := .later }
def StringsTextsUptoCardSaid : Prop := Claim7.holds Tryz.pinned (.plain (OpenSpec.upto stringsTextsSpec)) stringsTextsUptoCard
end Rows
end Go.Proofs.YtalacaghkbfapaaGreatDoor
