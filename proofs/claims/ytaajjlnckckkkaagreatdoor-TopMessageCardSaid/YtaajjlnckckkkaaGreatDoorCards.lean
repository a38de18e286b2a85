/-
  DERIVED. GIVEN WITH THE SEED: THE CARDS: each row of YtaajjlnckckkkaaGreatDoorRows.lean that lists a variable, with what it lists TIED to the program's text (the seventh form; the later family's looks); each row that meets fmt, with fmt's text TOLD by the authors' own Lean function (tested against real Go, not proved from fmt's source: count such statements apart). THE CARD IS WHAT COUNTS. Prove the row's statement (the work); the ties are given (YtaajjlnckckkkaaGreatDoorTie.lean); close each card by the builder's one call (the guide's Derived/Test/ToyasCard.lean, 'card_holds'). Laid BY PROGRAM, IN A SANDBOX (cutbox-door.mjs). By AI agents, Wed Nov 11 2026. No macro, syntax, notation, axiom, sorry.
-/
import Derived.Test.YtaajjlnckckkkaaGreatDoorRows
import GoSem.ClaimSeven
namespace Go.Proofs.YtaajjlnckckkkaaGreatDoor
namespace Rows

/-- THE TIED CARD OF 'obelisktop.TopReverse'. -/
def topReverseCard : Claim7 := { stood := { row := topReverseRow, standIns := [], harness := (true, "8abca9b4ed8fb4d181110bb10eecdc4b53ffc2d74554d58bdbf1990450f5d6db"), looks := false }, kinds := [], alts := [], laidByText := true, laidKinds := [.data, .data, .data, .data, .pinned], laidTests := true, laidLooks := .later }
def TopReverseCardSaid : Prop := Claim7.holds Tryz.pinned (.plain (OpenSpec.ofChange topReverseSpec)) topReverseCard

/-- THE TIED CARD OF 'obelisktop.TopTree'. -/
def topTreeCard : Claim7 := { stood := { row := topTreeRow, standIns := [], harness := (true, "8abca9b4ed8fb4d181110bb10eecdc4b53ffc2d74554d58bdbf1990450f5d6db"), looks := false }, kinds := [], alts := [], laidByText := true, laidKinds := [.data, .data, .data, .data, .pinned], laidTests := true, laidLooks := .later }
def TopTreeCardSaid : Prop := Claim7.holds Tryz.pinned (.plain (OpenSpec.ofChange topTreeSpec)) topTreeCard

/-- THE TIED CARD OF 'obelisktop.TopMessage'. -/
def topMessageCard : Claim7 := { stood := { row := topMessageRow, standIns := [], harness := (true, "8abca9b4ed8fb4d181110bb10eecdc4b53ffc2d74554d58bdbf1990450f5d6db"), looks := false }, kinds := [], alts := [], laidByText := true, laidKinds := [.data, .data, .data, .data, .pinned], laidTests := true, laidLooks := .later }
def TopMessageCardSaid : Prop := Claim7.holds Tryz.pinned (.plain (OpenSpec.ofChange topMessageSpec)) topMessageCard

/-- THE TIED CARD OF 'obelisktop.TopHello'. -/
def topHelloCard : Claim7 := { stood := { row := topHelloRow, standIns := [], harness := (true, "8abca9b4ed8fb4d181110bb10eecdc4b53ffc2d74554d58bdbf1990450f5d6db"), looks := false }, kinds := [], alts := [], laidByText := true, laidKinds := [.data, .data, .data, .data, .pinned], laidTests := true, laidLooks := .later }
def TopHelloCardSaid : Prop := Claim7.holds Tryz.pinned (.plain (OpenSpec.ofChange topHelloSpec)) topHelloCard

/-- THE TIED CARD OF 'obelisktop.TopSpeaks'. -/
def topSpeaksCard : Claim7 := { stood := { row := topSpeaksRow, standIns := [], harness := (true, "8abca9b4ed8fb4d181110bb10eecdc4b53ffc2d74554d58bdbf1990450f5d6db"), looks := false }, kinds := [], alts := [], laidByText := true, laidKinds := [.data, .data, .data, .data, .pinned], laidTests := true, laidLooks := .later }
def TopSpeaksCardSaid : Prop := Claim7.holds Tryz.pinned (.plain (OpenSpec.ofChange topSpeaksSpec)) topSpeaksCard

/-- THE SECOND FORM's CARD OF 'obelisktop.TopReverse'. -/
def topReverseUptoCard : Claim7 := { stood := { row := topReverseUptoRow, standIns := [], harness := (true, "8abca9b4ed8fb4d181110bb10eecdc4b53ffc2d74554d58bdbf1990450f5d6db"), looks := false }, kinds := [], alts := [], laidByText := true, laidKinds := [.data, .data, .data, .data, .pinned], laidTests := true, laidLooks := .later }
def TopReverseUptoCardSaid : Prop := Claim7.holds Tryz.pinned (.plain (OpenSpec.upto topReverseSpec)) topReverseUptoCard

/-- THE SECOND FORM's CARD OF 'obelisktop.TopTree'. -/
def topTreeUptoCard : Claim7 := { stood := { row := topTreeUptoRow, standIns := [], harness := (true, "8abca9b4ed8fb4d181110bb10eecdc4b53ffc2d74554d58bdbf1990450f5d6db"), looks := false }, kinds := [], alts := [], laidByText := true, laidKinds := [.data, .data, .data, .data, .pinned], laidTests := true, laidLooks := .later }
def TopTreeUptoCardSaid : Prop := Claim7.holds Tryz.pinned (.plain (OpenSpec.upto topTreeSpec)) topTreeUptoCard

/-- THE SECOND FORM's CARD OF 'obelisktop.TopMessage'. -/
def topMessageUptoCard : Claim7 := { stood := { row := topMessageUptoRow, standIns := [], harness := (true, "8abca9b4ed8fb4d181110bb10eecdc4b53ffc2d74554d58bdbf1990450f5d6db"), looks := false }, kinds := [], alts := [], laidByText := true, laidKinds := [.data, .data, .data, .data, .pinned], laidTests := true, laidLooks := .later }
def TopMessageUptoCardSaid : Prop := Claim7.holds Tryz.pinned (.plain (OpenSpec.upto topMessageSpec)) topMessageUptoCard

/-- THE SECOND FORM's CARD OF 'obelisktop.TopHello'. -/
def topHelloUptoCard : Claim7 := { stood := { row := topHelloUptoRow, standIns := [], harness := (true, "8abca9b4ed8fb4d181110bb10eecdc4b53ffc2d74554d58bdbf1990450f5d6db"), looks := false }, kinds := [], alts := [], laidByText := true, laidKinds := [.data, .data, .data, .data, .pinned], laidTests := true, laidLooks := .later }
def TopHelloUptoCardSaid : Prop := Claim7.holds Tryz.pinned (.plain (OpenSpec.upto topHelloSpec)) topHelloUptoCard

/-- THE SECOND FORM's CARD OF 'obelisktop.TopSpeaks'. -/
def topSpeaksUptoCard : Claim7 := { stood := { row := topSpeaksUptoRow, standIns := [], harness := (true, "8abca9b4ed8fb4d181110bb10eecdc4b53ffc2d74554d58bdbf1990450f5d6db"), looks := false }, kinds := [], alts := [], laidByText := true, laidKinds := [.data, .data, .data, .data, .pinned], laidTests := true, laidLooks := .later }
def TopSpeaksUptoCardSaid : Prop := Claim7.holds Tryz.pinned (.plain (OpenSpec.upto topSpeaksSpec)) topSpeaksUptoCard
end Rows
end Go.Proofs.YtaajjlnckckkkaaGreatDoor
