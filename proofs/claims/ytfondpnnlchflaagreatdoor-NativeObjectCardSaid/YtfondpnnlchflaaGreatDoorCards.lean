/-
  DERIVED. GIVEN WITH THE SEED: THE CARDS: each row of YtfondpnnlchflaaGreatDoorRows.lean that lists a variable, with what it lists TIED to the program's text (the seventh form; the later family's looks); each row that meets fmt, with fmt's text TOLD by the authors' own Lean function (tested against real Go, not proved from fmt's source: count such statements apart). THE CARD IS WHAT COUNTS. Prove the row's statement (the work); the ties are given (YtfondpnnlchflaaGreatDoorTie.lean); close each card by the builder's one call (the guide's Derived/Test/ToyasCard.lean, 'card_holds'). Laid BY PROGRAM, IN A SANDBOX (cutbox-door.mjs). By AI agents, Wed Nov 11 2026. No macro, syntax, notation, axiom, sorry.
-/
import Derived.Test.YtfondpnnlchflaaGreatDoorRows
import GoSem.ClaimSeven
namespace Go.Proofs.YtfondpnnlchflaaGreatDoor
namespace Rows

/-- THE TIED CARD OF 'obelisklaw24.NativeObject'. -/
def nativeObjectCard : Claim7 := { stood := { row := nativeObjectRow, standIns := [], harness := (true, "05b869657035874d8331f1e6282c6b110aebba84f2760d481a5c87adddb8b0ff"), looks := false }, kinds := [], alts := [], laidByText := true, laidKinds := [.data, .data, .data, .data, .pinned], laidTests := true, laidLooks := .later }
def NativeObjectCardSaid : Prop := Claim7.holds Tryz.pinned (.plain (OpenSpec.ofChange nativeObjectSpec)) nativeObjectCard

/-- THE SECOND FORM's CARD OF 'obelisklaw24.NativeObject'. -/
def nativeObjectUptoCard : Claim7 := { stood := { row := nativeObjectUptoRow, standIns := [], harness := (true, "05b869657035874d8331f1e6282c6b110aebba84f2760d481a5c87adddb8b0ff"), looks := false }, kinds := [], alts := [], laidByText := true, laidKinds := [.data, .data, .data, .data, .pinned], laidTests := true, laidLooks := .later }
def NativeObjectUptoCardSaid : Prop := Claim7.holds Tryz.pinned (.plain (OpenSpec.upto nativeObjectSpec)) nativeObjectUptoCard
end Rows
end Go.Proofs.YtfondpnnlchflaaGreatDoor
