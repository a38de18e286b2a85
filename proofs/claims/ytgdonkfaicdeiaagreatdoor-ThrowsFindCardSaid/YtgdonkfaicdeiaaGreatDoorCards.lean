/-
  DERIVED. GIVEN WITH THE SEED: THE CARDS: each row of YtgdonkfaicdeiaaGreatDoorRows.lean that lists a variable, with what it lists TIED to the program's text (the seventh form; the later family's looks); each row that meets fmt, with fmt's text TOLD by the authors' own Lean function (tested against real Go, not proved from fmt's source: count such statements apart). THE CARD IS WHAT COUNTS. Prove the row's statement (the work); the ties are given (YtgdonkfaicdeiaaGreatDoorTie.lean); close each card by the builder's one call (the guide's Derived/Test/ToyasCard.lean, 'card_holds'). Laid BY PROGRAM, IN A SANDBOX (cutbox-door.mjs). By AI agents, Wed Nov 11 2026. No macro, syntax, notation, axiom, sorry.
-/
import Derived.Test.YtgdonkfaicdeiaaGreatDoorRows
import GoSem.ClaimSeven
namespace Go.Proofs.YtgdonkfaicdeiaaGreatDoor
namespace Rows

/-- THE TIED CARD OF 'obelisklaw23.ThrowsFind'. -/
def throwsFindCard : Claim7 := { stood := { row := throwsFindRow, standIns := [], harness := (true, "a1d48037d58a4edccb136f8f27dd04df004264cdd203baa065f7225d0dd18edf"), looks := false }, kinds := [], alts := [], laidByText := true, laidKinds := [.data, .pinned], laidTests := true, laidLooks := .later }
def ThrowsFindCardSaid : Prop := Claim7.holds Tryz.pinned (.plain (OpenSpec.ofChange throwsFindSpec)) throwsFindCard

/-- THE SECOND FORM's CARD OF 'obelisklaw23.ThrowsFind'. -/
def throwsFindUptoCard : Claim7 := { stood := { row := throwsFindUptoRow, standIns := [], harness := (true, "a1d48037d58a4edccb136f8f27dd04df004264cdd203baa065f7225d0dd18edf"), looks := false }, kinds := [], alts := [], laidByText := true, laidKinds := [.data, .pinned], laidTests := true, laidLooks := .later }
def ThrowsFindUptoCardSaid : Prop := Claim7.holds Tryz.pinned (.plain (OpenSpec.upto throwsFindSpec)) throwsFindUptoCard
end Rows
end Go.Proofs.YtgdonkfaicdeiaaGreatDoor
