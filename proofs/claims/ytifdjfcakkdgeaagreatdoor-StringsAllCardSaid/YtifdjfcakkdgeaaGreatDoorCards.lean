/-
  DERIVED. GIVEN WITH THE SEED: THE CARDS: each row of YtifdjfcakkdgeaaGreatDoorRows.lean that lists a variable, with what it lists TIED to the program's text (the seventh form; the later family's looks); each row that meets fmt, with fmt's text TOLD by the authors' own Lean function (tested against real Go, not proved from fmt's source: count such statements apart). THE CARD IS WHAT COUNTS. Prove the row's statement (the work); the ties are given (YtifdjfcakkdgeaaGreatDoorTie.lean); close each card by the builder's one call (the guide's Derived/Test/ToyasCard.lean, 'card_holds'). Laid BY PROGRAM, IN A SANDBOX (cutbox-door.mjs). By AI agents, Wed Nov 11 2026. No macro, syntax, notation, axiom, sorry.
-/
import Derived.Test.YtifdjfcakkdgeaaGreatDoorRows
import GoSem.ClaimSeven
namespace Go.Proofs.YtifdjfcakkdgeaaGreatDoor
namespace Rows

/-- THE TIED CARD OF 'obelisklaw19.StringsAll'. -/
def stringsAllCard : Claim7 := { stood := { row := stringsAllRow, standIns := [], harness := (true, "fe3f78c5e601dd28350a973946933fe4f87d184b200d28d79a4f335948446dee"), looks := false }, kinds := [], alts := [], laidByText := true, laidKinds := [.data, .data, .data, .data, .pinned], laidTests := true, laidLooks := .later }
def StringsAllCardSaid : Prop := Claim7.holds Tryz.pinned (.plain (OpenSpec.ofChange stringsAllSpec)) stringsAllCard

/-- THE SECOND FORM's CARD OF 'obelisklaw19.StringsAll'. -/
def stringsAllUptoCard : Claim7 := { stood := { row := stringsAllUptoRow, standIns := [], harness := (true, "fe3f78c5e601dd28350a973946933fe4f87d184b200d28d79a4f335948446dee"), looks := false }, kinds := [], alts := [], laidByText := true, laidKinds := [.data, .data, .data, .data, .pinned], laidTests := true, laidLooks := .later }
def StringsAllUptoCardSaid : Prop := Claim7.holds Tryz.pinned (.plain (OpenSpec.upto stringsAllSpec)) stringsAllUptoCard
end Rows
end Go.Proofs.YtifdjfcakkdgeaaGreatDoor
