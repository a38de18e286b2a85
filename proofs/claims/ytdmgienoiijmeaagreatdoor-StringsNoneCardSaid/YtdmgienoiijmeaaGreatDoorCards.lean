/-
  DERIVED. GIVEN WITH THE SEED: THE CARDS: each row of YtdmgienoiijmeaaGreatDoorRows.lean that lists a variable, with what it lists TIED to the program's text (the seventh form; the later family's looks); each row that meets fmt, with fmt's text TOLD by the authors' own Lean function (tested against real Go, not proved from fmt's source: count such statements apart). THE CARD IS WHAT COUNTS. Prove the row's statement (the work); the ties are given (YtdmgienoiijmeaaGreatDoorTie.lean); close each card by the builder's one call (the guide's Derived/Test/ToyasCard.lean, 'card_holds'). Laid BY PROGRAM, IN A SANDBOX (cutbox-door.mjs). By AI agents, Wed Nov 11 2026. No macro, syntax, notation, axiom, sorry.
-/
import Derived.Test.YtdmgienoiijmeaaGreatDoorRows
import GoSem.ClaimSeven
namespace Go.Proofs.YtdmgienoiijmeaaGreatDoor
namespace Rows

/-- THE TIED CARD OF 'obelisklaw19.StringsNone'. -/
def stringsNoneCard : Claim7 := { stood := { row := stringsNoneRow, standIns := [], harness := (true, "854d965c77e9c362cb36ed9792fdd4a451726648c50768c126f2cfb1ba658f1f"), looks := false }, kinds := [], alts := [], laidByText := true, laidKinds := [.data, .data, .data, .data, .pinned], laidTests := true, laidLooks := .later }
def StringsNoneCardSaid : Prop := Claim7.holds Tryz.pinned (.plain (OpenSpec.ofChange stringsNoneSpec)) stringsNoneCard

/-- THE SECOND FORM's CARD OF 'obelisklaw19.StringsNone'. -/
def stringsNoneUptoCard : Claim7 := { stood := { row := stringsNoneUptoRow, standIns := [], harness := (true, "854d965c77e9c362cb36ed9792fdd4a451726648c50768c126f2cfb1ba658f1f"), looks := false }, kinds := [], alts := [], laidByText := true, laidKinds := [.data, .data, .data, .data, .pinned], laidTests := true, laidLooks := .later }
def StringsNoneUptoCardSaid : Prop := Claim7.holds Tryz.pinned (.plain (OpenSpec.upto stringsNoneSpec)) stringsNoneUptoCard
end Rows
end Go.Proofs.YtdmgienoiijmeaaGreatDoor
