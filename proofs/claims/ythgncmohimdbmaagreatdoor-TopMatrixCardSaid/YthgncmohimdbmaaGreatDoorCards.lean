/-
  DERIVED. GIVEN WITH THE SEED: THE CARDS: each row of YthgncmohimdbmaaGreatDoorRows.lean that lists a variable, with what it lists TIED to the program's text (the seventh form; the later family's looks); each row that meets fmt, with fmt's text TOLD by the authors' own Lean function (tested against real Go, not proved from fmt's source: count such statements apart). THE CARD IS WHAT COUNTS. Prove the row's statement (the work); the ties are given (YthgncmohimdbmaaGreatDoorTie.lean); close each card by the builder's one call (the guide's Derived/Test/ToyasCard.lean, 'card_holds'). Laid BY PROGRAM, IN A SANDBOX (cutbox-door.mjs). By AI agents, Wed Nov 11 2026. No macro, syntax, notation, axiom, sorry.
-/
import Derived.Test.YthgncmohimdbmaaGreatDoorRows
import GoSem.ClaimSeven
namespace Go.Proofs.YthgncmohimdbmaaGreatDoor
namespace Rows

/-- THE TIED CARD OF 'obelisktop.TopMatrix'. -/
def topMatrixCard : Claim7 := { stood := { row := topMatrixRow, standIns := [], harness := (true, "c2cf5e38ed6d5db140e87c80b454e1a6012c2a8da970a712d9d92c90b7041fb8"), looks := false }, kinds := [], alts := [], laidByText := true, laidKinds := [.data, .data, .data, .data, .pinned], laidTests := true, laidLooks := .later }
def TopMatrixCardSaid : Prop := Claim7.holds Tryz.pinned (.plain (OpenSpec.ofChange topMatrixSpec)) topMatrixCard

/-- THE TIED CARD OF 'obelisktop.TopLongs'. -/
def topLongsCard : Claim7 := { stood := { row := topLongsRow, standIns := [], harness := (true, "c2cf5e38ed6d5db140e87c80b454e1a6012c2a8da970a712d9d92c90b7041fb8"), looks := false }, kinds := [], alts := [], laidByText := true, laidKinds := [.data, .data, .data, .data, .pinned], laidTests := true, laidLooks := .later }
def TopLongsCardSaid : Prop := Claim7.holds Tryz.pinned (.plain (OpenSpec.ofChange topLongsSpec)) topLongsCard

/-- THE TIED CARD OF 'obelisktop.TopCopy'. -/
def topCopyCard : Claim7 := { stood := { row := topCopyRow, standIns := [], harness := (true, "c2cf5e38ed6d5db140e87c80b454e1a6012c2a8da970a712d9d92c90b7041fb8"), looks := false }, kinds := [], alts := [], laidByText := true, laidKinds := [.data, .data, .data, .data, .pinned], laidTests := true, laidLooks := .later }
def TopCopyCardSaid : Prop := Claim7.holds Tryz.pinned (.plain (OpenSpec.ofChange topCopySpec)) topCopyCard

/-- THE TIED CARD OF 'obelisktop.TopTree'. -/
def topTreeCard : Claim7 := { stood := { row := topTreeRow, standIns := [], harness := (true, "c2cf5e38ed6d5db140e87c80b454e1a6012c2a8da970a712d9d92c90b7041fb8"), looks := false }, kinds := [], alts := [], laidByText := true, laidKinds := [.data, .data, .data, .data, .pinned], laidTests := true, laidLooks := .later }
def TopTreeCardSaid : Prop := Claim7.holds Tryz.pinned (.plain (OpenSpec.ofChange topTreeSpec)) topTreeCard

/-- THE SECOND FORM's CARD OF 'obelisktop.TopMatrix'. -/
def topMatrixUptoCard : Claim7 := { stood := { row := topMatrixUptoRow, standIns := [], harness := (true, "c2cf5e38ed6d5db140e87c80b454e1a6012c2a8da970a712d9d92c90b7041fb8"), looks := false }, kinds := [], alts := [], laidByText := true, laidKinds := [.data, .data, .data, .data, .pinned], laidTests := true, laidLooks := .later }
def TopMatrixUptoCardSaid : Prop := Claim7.holds Tryz.pinned (.plain (OpenSpec.upto topMatrixSpec)) topMatrixUptoCard

/-- THE SECOND FORM's CARD OF 'obelisktop.TopLongs'. -/
def topLongsUptoCard : Claim7 := { stood := { row := topLongsUptoRow, standIns := [], harness := (true, "c2cf5e38ed6d5db140e87c80b454e1a6012c2a8da970a712d9d92c90b7041fb8"), looks := false }, kinds := [], alts := [], laidByText := true, laidKinds := [.data, .data, .data, .data, .pinned], laidTests := true, laidLooks := .later }
def TopLongsUptoCardSaid : Prop := Claim7.holds Tryz.pinned (.plain (OpenSpec.upto topLongsSpec)) topLongsUptoCard

/-- THE SECOND FORM's CARD OF 'obelisktop.TopCopy'. -/
def topCopyUptoCard : Claim7 := { stood := { row := topCopyUptoRow, standIns := [], harness := (true, "c2cf5e38ed6d5db140e87c80b454e1a6012c2a8da970a712d9d92c90b7041fb8"), looks := false }, kinds := [], alts := [], laidByText := true, laidKinds := [.data, .data, .data, .data, .pinned], laidTests := true, laidLooks := .later }
def TopCopyUptoCardSaid : Prop := Claim7.holds Tryz.pinned (.plain (OpenSpec.upto topCopySpec)) topCopyUptoCard

/-- THE SECOND FORM's CARD OF 'obelisktop.TopTree'. -/
def topTreeUptoCard : Claim7 := { stood := { row := topTreeUptoRow, standIns := [], harness := (true, "c2cf5e38ed6d5db140e87c80b454e1a6012c2a8da970a712d9d92c90b7041fb8"), looks := false }, kinds := [], alts := [], laidByText := true, laidKinds := [.data, .data, .data, .data, .pinned], laidTests := true, laidLooks := .later }
def TopTreeUptoCardSaid : Prop := Claim7.holds Tryz.pinned (.plain (OpenSpec.upto topTreeSpec)) topTreeUptoCard
end Rows
end Go.Proofs.YthgncmohimdbmaaGreatDoor
