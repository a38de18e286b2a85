/-
  DERIVED. GIVEN WITH THE SEED: THE CARDS: each row of YtdlcefbpckieeaaGreatDoorRows.lean that lists a variable, with what it lists TIED to the program's text (the seventh form; the later family's looks); each row that meets fmt, with fmt's text TOLD by the authors' own Lean function (tested against real Go, not proved from fmt's source: count such statements apart). THE CARD IS WHAT COUNTS. Prove the row's statement (the work); the ties are given (YtdlcefbpckieeaaGreatDoorTie.lean); close each card by the builder's one call (the guide's Derived/Test/ToyasCard.lean, 'card_holds'). Laid BY PROGRAM, IN A SANDBOX (cutbox-door.mjs). By AI agents, Wed Nov 11 2026. No macro, syntax, notation, axiom, sorry.
-/
import Derived.Test.YtdlcefbpckieeaaGreatDoorRows
import GoSem.ClaimSeven
namespace Go.Proofs.YtdlcefbpckieeaaGreatDoor
namespace Rows

/-- THE TIED CARD OF 'obelisklaw9.ClassNone'. -/
def classNoneCard : Claim7 := { stood := { row := classNoneRow, standIns := [], harness := (true, "36922e6df9deaf823547a01d55de97e1e1cb55862de9cd5fbb0036def503817a"), looks := false }, kinds := [], alts := [], laidByText := true, laidKinds := [.data, .pinned], laidTests := true, laidLooks := .later }
def ClassNoneCardSaid : Prop := Claim7.holds Tryz.pinned (.plain (OpenSpec.ofChange classNoneSpec)) classNoneCard

/-- THE SECOND FORM's CARD OF 'obelisklaw9.ClassNone'. -/
def classNoneUptoCard : Claim7 := { stood := { row := classNoneUptoRow, standIns := [], harness := (true, "36922e6df9deaf823547a01d55de97e1e1cb55862de9cd5fbb0036def503817a"), looks := false }, kinds := [], alts := [], laidByText := true, laidKinds := [.data, .pinned], laidTests := true, laidLooks := .later }
def ClassNoneUptoCardSaid : Prop := Claim7.holds Tryz.pinned (.plain (OpenSpec.upto classNoneSpec)) classNoneUptoCard
end Rows
end Go.Proofs.YtdlcefbpckieeaaGreatDoor
