/-
  DERIVED. GIVEN WITH THE SEED: THE CARDS: each row of YtedimikdpclpnaaGreatDoorRows.lean that lists a variable, with what it lists TIED to the program's text (the seventh form; the later family's looks); each row that meets fmt, with fmt's text TOLD by the authors' own Lean function (tested against real Go, not proved from fmt's source: count such statements apart). THE CARD IS WHAT COUNTS. Prove the row's statement (the work); the ties are given (YtedimikdpclpnaaGreatDoorTie.lean); close each card by the builder's one call (the guide's Derived/Test/ToyasCard.lean, 'card_holds'). Laid BY PROGRAM, IN A SANDBOX (cutbox-door.mjs). By AI agents, Wed Nov 11 2026. No macro, syntax, notation, axiom, sorry.
-/
import Derived.Test.YtedimikdpclpnaaGreatDoorRows
import GoSem.ClaimSeven
namespace Go.Proofs.YtedimikdpclpnaaGreatDoor
namespace Rows

/-- THE TIED CARD OF 'obelisktop.TopCollatz'. -/
def topCollatzCard : Claim7 := { stood := { row := topCollatzRow, standIns := [], harness := (true, "f8346cb8717a14892b7ab13919a431dddf7fb6e70d41814623906b4835b3f4a9"), looks := false }, kinds := [], alts := [], laidByText := true, laidKinds := [.data, .data, .data, .data, .pinned], laidTests := true, laidLooks := .later }
def TopCollatzCardSaid : Prop := Claim7.holds Tryz.pinned (.plain (OpenSpec.ofChange topCollatzSpec)) topCollatzCard

/-- THE TIED CARD OF 'obelisktop.TopLongs'. -/
def topLongsCard : Claim7 := { stood := { row := topLongsRow, standIns := [], harness := (true, "f8346cb8717a14892b7ab13919a431dddf7fb6e70d41814623906b4835b3f4a9"), looks := false }, kinds := [], alts := [], laidByText := true, laidKinds := [.data, .data, .data, .data, .pinned], laidTests := true, laidLooks := .later }
def TopLongsCardSaid : Prop := Claim7.holds Tryz.pinned (.plain (OpenSpec.ofChange topLongsSpec)) topLongsCard

/-- THE TIED CARD OF 'obelisktop.TopNarrow'. -/
def topNarrowCard : Claim7 := { stood := { row := topNarrowRow, standIns := [], harness := (true, "f8346cb8717a14892b7ab13919a431dddf7fb6e70d41814623906b4835b3f4a9"), looks := false }, kinds := [], alts := [], laidByText := true, laidKinds := [.data, .data, .data, .data, .pinned], laidTests := true, laidLooks := .later }
def TopNarrowCardSaid : Prop := Claim7.holds Tryz.pinned (.plain (OpenSpec.ofChange topNarrowSpec)) topNarrowCard

/-- THE TIED CARD OF 'obelisktop.TopFuel'. -/
def topFuelCard : Claim7 := { stood := { row := topFuelRow, standIns := [], harness := (true, "f8346cb8717a14892b7ab13919a431dddf7fb6e70d41814623906b4835b3f4a9"), looks := false }, kinds := [], alts := [], laidByText := true, laidKinds := [.data, .data, .data, .data, .pinned], laidTests := true, laidLooks := .later }
def TopFuelCardSaid : Prop := Claim7.holds Tryz.pinned (.plain (OpenSpec.ofChange topFuelSpec)) topFuelCard

/-- THE TIED CARD OF 'obelisktop.TopSuper'. -/
def topSuperCard : Claim7 := { stood := { row := topSuperRow, standIns := [], harness := (true, "f8346cb8717a14892b7ab13919a431dddf7fb6e70d41814623906b4835b3f4a9"), looks := false }, kinds := [], alts := [], laidByText := true, laidKinds := [.data, .data, .data, .data, .pinned], laidTests := true, laidLooks := .later }
def TopSuperCardSaid : Prop := Claim7.holds Tryz.pinned (.plain (OpenSpec.ofChange topSuperSpec)) topSuperCard

/-- THE TIED CARD OF 'obelisktop.TopMarks'. -/
def topMarksCard : Claim7 := { stood := { row := topMarksRow, standIns := [], harness := (true, "f8346cb8717a14892b7ab13919a431dddf7fb6e70d41814623906b4835b3f4a9"), looks := false }, kinds := [], alts := [], laidByText := true, laidKinds := [.data, .data, .data, .data, .pinned], laidTests := true, laidLooks := .later }
def TopMarksCardSaid : Prop := Claim7.holds Tryz.pinned (.plain (OpenSpec.ofChange topMarksSpec)) topMarksCard

/-- THE SECOND FORM's CARD OF 'obelisktop.TopCollatz'. -/
def topCollatzUptoCard : Claim7 := { stood := { row := topCollatzUptoRow, standIns := [], harness := (true, "f8346cb8717a14892b7ab13919a431dddf7fb6e70d41814623906b4835b3f4a9"), looks := false }, kinds := [], alts := [], laidByText := true, laidKinds := [.data, .data, .data, .data, .pinned], laidTests := true, laidLooks := .later }
def TopCollatzUptoCardSaid : Prop := Claim7.holds Tryz.pinned (.plain (OpenSpec.upto topCollatzSpec)) topCollatzUptoCard

/-- THE SECOND FORM's CARD OF 'obelisktop.TopLongs'. -/
def topLongsUptoCard : Claim7 := { stood := { row := topLongsUptoRow, standIns := [], harness := (true, "f8346cb8717a14892b7ab13919a431dddf7fb6e70d41814623906b4835b3f4a9"), looks := false }, kinds := [], alts := [], laidByText := true, laidKinds := [.data, .data, .data, .data, .pinned], laidTests := true, laidLooks := .later }
def TopLongsUptoCardSaid : Prop := Claim7.holds Tryz.pinned (.plain (OpenSpec.upto topLongsSpec)) topLongsUptoCard

/-- THE SECOND FORM's CARD OF 'obelisktop.TopNarrow'. -/
def topNarrowUptoCard : Claim7 := { stood := { row := topNarrowUptoRow, standIns := [], harness := (true, "f8346cb8717a14892b7ab13919a431dddf7fb6e70d41814623906b4835b3f4a9"), looks := false }, kinds := [], alts := [], laidByText := true, laidKinds := [.data, .data, .data, .data, .pinned], laidTests := true, laidLooks := .later }
def TopNarrowUptoCardSaid : Prop := Claim7.holds Tryz.pinned (.plain (OpenSpec.upto topNarrowSpec)) topNarrowUptoCard

/-- THE SECOND FORM's CARD OF 'obelisktop.TopFuel'. -/
def topFuelUptoCard : Claim7 := { stood := { row := topFuelUptoRow, standIns := [], harness := (true, "f8346cb8717a14892b7ab13919a431dddf7fb6e70d41814623906b4835b3f4a9"), looks := false }, kinds := [], alts := [], laidByText := true, laidKinds := [.data, .data, .data, .data, .pinned], laidTests := true, laidLooks := .later }
def TopFuelUptoCardSaid : Prop := Claim7.holds Tryz.pinned (.plain (OpenSpec.upto topFuelSpec)) topFuelUptoCard

/-- THE SECOND FORM's CARD OF 'obelisktop.TopSuper'. -/
def topSuperUptoCard : Claim7 := { stood := { row := topSuperUptoRow, standIns := [], harness := (true, "f8346cb8717a14892b7ab13919a431dddf7fb6e70d41814623906b4835b3f4a9"), looks := false }, kinds := [], alts := [], laidByText := true, laidKinds := [.data, .data, .data, .data, .pinned], laidTests := true, laidLooks := .later }
def TopSuperUptoCardSaid : Prop := Claim7.holds Tryz.pinned (.plain (OpenSpec.upto topSuperSpec)) topSuperUptoCard

/-- THE SECOND FORM's CARD OF 'obelisktop.TopMarks'. -/
def topMarksUptoCard : Claim7 := { stood := { row := topMarksUptoRow, standIns := [], harness := (true, "f8346cb8717a14892b7ab13919a431dddf7fb6e70d41814623906b4835b3f4a9"), looks := false }, kinds := [], alts := [], laidByText := true, laidKinds := [.data, .data, .data, .data, .pinned], laidTests := true, laidLooks := .later }
def TopMarksUptoCardSaid : Prop := Claim7.holds Tryz.pinned (.plain (OpenSpec.upto topMarksSpec)) topMarksUptoCard
end Rows
end Go.Proofs.YtedimikdpclpnaaGreatDoor
