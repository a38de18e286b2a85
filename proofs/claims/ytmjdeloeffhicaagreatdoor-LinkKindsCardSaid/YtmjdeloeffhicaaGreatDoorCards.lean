/-
  DERIVED. GIVEN WITH THE SEED: THE CARDS: each row of YtmjdeloeffhicaaGreatDoorRows.lean that lists a variable, with what it lists TIED to the program's text (the seventh form; the later family's looks); each row that meets fmt, with fmt's text TOLD by the authors' own Lean function (tested against real Go, not proved from fmt's source: count such statements apart). THE CARD IS WHAT COUNTS. Prove the row's statement (the work); the ties are given (YtmjdeloeffhicaaGreatDoorTie.lean); close each card by the builder's one call (the guide's Derived/Test/ToyasCard.lean, 'card_holds'). Laid BY PROGRAM, IN A SANDBOX (cutbox-door.mjs). By AI agents, Wed Nov 11 2026. No macro, syntax, notation, axiom, sorry.
-/
import Derived.Test.YtmjdeloeffhicaaGreatDoorRows
import GoSem.ClaimSeven
namespace Go.Proofs.YtmjdeloeffhicaaGreatDoor
namespace Rows

/-- THE TIED CARD OF 'obelisklaw15.LinkKinds'. -/
def linkKindsCard : Claim7 := { stood := { row := linkKindsRow, standIns := [], harness := (true, "c0604969be54fae9af7c44f9deac627b5fb8e9dd41c5f2300b49091ee257b317"), looks := false }, kinds := [], alts := [], laidByText := true, laidKinds := [.data, .pinned], laidTests := true, laidLooks := .later }
def LinkKindsCardSaid : Prop := Claim7.holds Tryz.pinned (.plain (OpenSpec.ofChange linkKindsSpec)) linkKindsCard

/-- THE SECOND FORM's CARD OF 'obelisklaw15.LinkKinds'. -/
def linkKindsUptoCard : Claim7 := { stood := { row := linkKindsUptoRow, standIns := [], harness := (true, "c0604969be54fae9af7c44f9deac627b5fb8e9dd41c5f2300b49091ee257b317"), looks := false }, kinds := [], alts := [], laidByText := true, laidKinds := [.data, .pinned], laidTests := true, laidLooks := .later }
def LinkKindsUptoCardSaid : Prop := Claim7.holds Tryz.pinned (.plain (OpenSpec.upto linkKindsSpec)) linkKindsUptoCard
end Rows
end Go.Proofs.YtmjdeloeffhicaaGreatDoor
