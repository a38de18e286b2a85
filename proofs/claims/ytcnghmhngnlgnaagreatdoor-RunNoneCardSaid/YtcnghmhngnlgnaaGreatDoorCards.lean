/-
  DERIVED. GIVEN WITH THE SEED: THE CARDS: each row of YtcnghmhngnlgnaaGreatDoorRows.lean that lists a variable, with what it lists TIED to the program's text (the seventh form; the later family's looks); each row that meets fmt, with fmt's text TOLD by the authors' own Lean function (tested against real Go, not proved from fmt's source: count such statements apart). THE CARD IS WHAT COUNTS. Prove the row's statement (the work); the ties are given (YtcnghmhngnlgnaaGreatDoorTie.lean); close each card by the builder's one call (the guide's Derived/Test/ToyasCard.lean, 'card_holds'). Laid BY PROGRAM, IN A SANDBOX (cutbox-door.mjs). By AI agents, Wed Nov 11 2026. No macro, syntax, notation, axiom, sorry.
-/
import Derived.Test.YtcnghmhngnlgnaaGreatDoorRows
import GoSem.ClaimSeven
namespace Go.Proofs.YtcnghmhngnlgnaaGreatDoor
namespace Rows

/-- THE TIED CARD OF 'obelisklaw25.RunNone'. -/
def runNoneCard : Claim7 := { stood := { row := runNoneRow, standIns := [], harness := (true, "c38eb7a051f4bccca25f6ab88aa7ec51e440cb3049fc694e8e987f393201cf20"), looks := true }, kinds := [], alts := [], laidByText := true, laidKinds := [.data, .data, .data, .data, .pinned], laidTests := true, laidLooks := .later }
def RunNoneCardSaid : Prop := Claim7.holds Tryz.pinned (.plain (OpenSpec.ofChange runNoneSpec)) runNoneCard

/-- THE SECOND FORM's CARD OF 'obelisklaw25.RunNone'. -/
def runNoneUptoCard : Claim7 := { stood := { row := runNoneUptoRow, standIns := [], harness := (true, "c38eb7a051f4bccca25f6ab88aa7ec51e440cb3049fc694e8e987f393201cf20"), looks := true }, kinds := [], alts := [], laidByText := true, laidKinds := [.data, .data, .data, .data, .pinned], laidTests := true, laidLooks := .later }
def RunNoneUptoCardSaid : Prop := Claim7.holds Tryz.pinned (.plain (OpenSpec.upto runNoneSpec)) runNoneUptoCard
end Rows
end Go.Proofs.YtcnghmhngnlgnaaGreatDoor
