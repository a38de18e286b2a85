/-
  DERIVED. GIVEN WITH THE SEED: THE CARDS: each row of YtbgkinjicnnkiaaGreatDoorRows.lean that lists a variable, with what it lists TIED to the program's text (the seventh form; the later family's looks); each row that meets fmt, with fmt's text TOLD by the authors' own Lean function (tested against real Go, not proved from fmt's source: count such statements apart). THE CARD IS WHAT COUNTS. Prove the row's statement (the work); the ties are given (YtbgkinjicnnkiaaGreatDoorTie.lean); close each card by the builder's one call (the guide's Derived/Test/ToyasCard.lean, 'card_holds'). Laid BY PROGRAM, IN A SANDBOX (cutbox-door.mjs). By AI agents, Wed Nov 11 2026. No macro, syntax, notation, axiom, sorry.
-/
import Derived.Test.YtbgkinjicnnkiaaGreatDoorRows
import GoSem.ClaimSeven
namespace Go.Proofs.YtbgkinjicnnkiaaGreatDoor
namespace Rows

/-- THE TIED CARD OF 'obelisktop.TopReverse'. -/
def topReverseCard : Claim7 := { stood := { row := topReverseRow, standIns := [], harness := (true, "7fb7953f78f2affbc57a318c11c50c49beea88159035fb8afafce8a61316ec17"), looks := false }, kinds := [], alts := [], laidByText := true, laidKinds := [.data, .data, .data, .data, .pinned], laidTests := true, laidLooks := .later }
def TopReverseCardSaid : Prop := Claim7.holds Tryz.pinned (.plain (OpenSpec.ofChange topReverseSpec)) topReverseCard

/-- THE TIED CARD OF 'obelisktop.TopHello'. -/
def topHelloCard : Claim7 := { stood := { row := topHelloRow, standIns := [], harness := (true, "7fb7953f78f2affbc57a318c11c50c49beea88159035fb8afafce8a61316ec17"), looks := false }, kinds := [], alts := [], laidByText := true, laidKinds := [.data, .data, .data, .data, .pinned], laidTests := true, laidLooks := .later }
def TopHelloCardSaid : Prop := Claim7.holds Tryz.pinned (.plain (OpenSpec.ofChange topHelloSpec)) topHelloCard

/-- THE TIED CARD OF 'obelisktop.TopSpeaks'. -/
def topSpeaksCard : Claim7 := { stood := { row := topSpeaksRow, standIns := [], harness := (true, "7fb7953f78f2affbc57a318c11c50c49beea88159035fb8afafce8a61316ec17"), looks := false }, kinds := [], alts := [], laidByText := true, laidKinds := [.data, .data, .data, .data, .pinned], laidTests := true, laidLooks := .later }
def TopSpeaksCardSaid : Prop := Claim7.holds Tryz.pinned (.plain (OpenSpec.ofChange topSpeaksSpec)) topSpeaksCard

/-- THE SECOND FORM's CARD OF 'obelisktop.TopReverse'. -/
def topReverseUptoCard : Claim7 := { stood := { row := topReverseUptoRow, standIns := [], harness := (true, "7fb7953f78f2affbc57a318c11c50c49beea88159035fb8afafce8a61316ec17"), looks := false }, kinds := [], alts := [], laidByText := true, laidKinds := [.data, .data, .data, .data, .pinned], laidTests := true, laidLooks := .later }
def TopReverseUptoCardSaid : Prop := Claim7.holds Tryz.pinned (.plain (OpenSpec.upto topReverseSpec)) topReverseUptoCard

/-- THE SECOND FORM's CARD OF 'obelisktop.TopHello'. -/
def topHelloUptoCard : Claim7 := { stood := { row := topHelloUptoRow, standIns := [], harness := (true, "7fb7953f78f2affbc57a318c11c50c49beea88159035fb8afafce8a61316ec17"), looks := false }, kinds := [], alts := [], laidByText := true, laidKinds := [.data, .data, .data, .data, .pinned], laidTests := true, laidLooks := .later }
def TopHelloUptoCardSaid : Prop := Claim7.holds Tryz.pinned (.plain (OpenSpec.upto topHelloSpec)) topHelloUptoCard

/-- THE SECOND FORM's CARD OF 'obelisktop.TopSpeaks'. -/
def topSpeaksUptoCard : Claim7 := { stood := { row := topSpeaksUptoRow, standIns := [], harness := (true, "7fb7953f78f2affbc57a318c11c50c49beea88159035fb8afafce8a61316ec17"), looks := false }, kinds := [], alts := [], laidByText := true, laidKinds := [.data, .data, .data, .data, .pinned], laidTests := true, laidLooks := .later }
def TopSpeaksUptoCardSaid : Prop := Claim7.holds Tryz.pinned (.plain (OpenSpec.upto topSpeaksSpec)) topSpeaksUptoCard
end Rows
end Go.Proofs.YtbgkinjicnnkiaaGreatDoor
