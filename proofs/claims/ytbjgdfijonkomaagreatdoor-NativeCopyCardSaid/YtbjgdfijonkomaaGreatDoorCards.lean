/-
  DERIVED. GIVEN WITH THE SEED: THE CARDS: each row of YtbjgdfijonkomaaGreatDoorRows.lean that lists a variable, with what it lists TIED to the program's text (the seventh form; the later family's looks); each row that meets fmt, with fmt's text TOLD by the authors' own Lean function (tested against real Go, not proved from fmt's source: count such statements apart). THE CARD IS WHAT COUNTS. Prove the row's statement (the work); the ties are given (YtbjgdfijonkomaaGreatDoorTie.lean); close each card by the builder's one call (the guide's Derived/Test/ToyasCard.lean, 'card_holds'). Laid BY PROGRAM, IN A SANDBOX (cutbox-door.mjs). By AI agents, Wed Nov 11 2026. No macro, syntax, notation, axiom, sorry.
-/
import Derived.Test.YtbjgdfijonkomaaGreatDoorRows
import GoSem.ClaimSeven
namespace Go.Proofs.YtbjgdfijonkomaaGreatDoor
namespace Rows

/-- THE TIED CARD OF 'obelisklaw24.NativeCopy'. -/
def nativeCopyCard : Claim7 := { stood := { row := nativeCopyRow, standIns := [], harness := (true, "e1ad92eff38897a1f9183e4c5c9b71db17554d86e4428baea74643b5b4fa3e88"), looks := false }, kinds := [], alts := [], laidByText := true, laidKinds := [.data, .data, .data, .data, .pinned], laidTests := true, laidLooks := .later }
def NativeCopyCardSaid : Prop := Claim7.holds Tryz.pinned (.plain (OpenSpec.ofChange nativeCopySpec)) nativeCopyCard

/-- THE SECOND FORM's CARD OF 'obelisklaw24.NativeCopy'. -/
def nativeCopyUptoCard : Claim7 := { stood := { row := nativeCopyUptoRow, standIns := [], harness := (true, "e1ad92eff38897a1f9183e4c5c9b71db17554d86e4428baea74643b5b4fa3e88"), looks := false }, kinds := [], alts := [], laidByText := true, laidKinds := [.data, .data, .data, .data, .pinned], laidTests := true, laidLooks := .later }
def NativeCopyUptoCardSaid : Prop := Claim7.holds Tryz.pinned (.plain (OpenSpec.upto nativeCopySpec)) nativeCopyUptoCard
end Rows
end Go.Proofs.YtbjgdfijonkomaaGreatDoor
