/-
  DERIVED. GIVEN WITH THE SEED: THE CARDS: each row of YtaabcpibfignfaaGreatDoorRows.lean that lists a variable, with what it lists TIED to the program's text (the seventh form; the later family's looks); each row that meets fmt, with fmt's text TOLD by the authors' own Lean function (tested against real Go, not proved from fmt's source: count such statements apart). THE CARD IS WHAT COUNTS. Prove the row's statement (the work); the ties are given (YtaabcpibfignfaaGreatDoorTie.lean); close each card by the builder's one call (the guide's Derived/Test/ToyasCard.lean, 'card_holds'). Laid BY PROGRAM, IN A SANDBOX (cutbox-door.mjs). By AI agents, Wed Nov 11 2026. No macro, syntax, notation, axiom, sorry.
-/
import Derived.Test.YtaabcpibfignfaaGreatDoorRows
import GoSem.ClaimSeven
namespace Go.Proofs.YtaabcpibfignfaaGreatDoor
namespace Rows

/-- THE TIED CARD OF 'obelisktop.TopSort'. -/
def topSortCard : Claim7 := { stood := { row := topSortRow, standIns := [], harness := (true, "b90a5277b695d5b6f21afae5b7c13cd3b4cafefd1baca8c36566ad9f212ea34e"), looks := false }, kinds := [], alts := [], laidByText := true, laidKinds := [.data, .data, .data, .data, .pinned], laidTests := true, laidLooks := .later }
def TopSortCardSaid : Prop := Claim7.holds Tryz.pinned (.plain (OpenSpec.ofChange topSortSpec)) topSortCard

/-- THE SECOND FORM's CARD OF 'obelisktop.TopSort'. -/
def topSortUptoCard : Claim7 := { stood := { row := topSortUptoRow, standIns := [], harness := (true, "b90a5277b695d5b6f21afae5b7c13cd3b4cafefd1baca8c36566ad9f212ea34e"), looks := false }, kinds := [], alts := [], laidByText := true, laidKinds := [.data, .data, .data, .data, .pinned], laidTests := true, laidLooks := .later }
def TopSortUptoCardSaid : Prop := Claim7.holds Tryz.pinned (.plain (OpenSpec.upto topSortSpec)) topSortUptoCard
end Rows
end Go.Proofs.YtaabcpibfignfaaGreatDoor
