/-
  DERIVED. GIVEN WITH THE SEED: THE CARDS: each row of YtkckdnjocncnhaaGreatDoorRows.lean that lists a variable, with what it lists TIED to the program's text (the seventh form; the later family's looks); each row that meets fmt, with fmt's text TOLD by the authors' own Lean function (tested against real Go, not proved from fmt's source: count such statements apart). THE CARD IS WHAT COUNTS. Prove the row's statement (the work); the ties are given (YtkckdnjocncnhaaGreatDoorTie.lean); close each card by the builder's one call (the guide's Derived/Test/ToyasCard.lean, 'card_holds'). Laid BY PROGRAM, IN A SANDBOX (cutbox-door.mjs). By AI agents, Wed Nov 11 2026. No macro, syntax, notation, axiom, sorry.
-/
import Derived.Test.YtkckdnjocncnhaaGreatDoorRows
import GoSem.ClaimSeven
namespace Go.Proofs.YtkckdnjocncnhaaGreatDoor
namespace Rows

/-- THE TIED CARD OF 'obelisktop.TopGcd'. -/
def topGcdCard : Claim7 := { stood := { row := topGcdRow, standIns := [], harness := (true, "339f997f25aac11184f356e4c17c33e84fc97157e2622f8110c6fb03a3ca0bcf"), looks := false }, kinds := [], alts := [], laidByText := true, laidKinds := [.data, .data, .data, .data, .pinned], laidTests := true, laidLooks := .later }
def TopGcdCardSaid : Prop := Claim7.holds Tryz.pinned (.plain (OpenSpec.ofChange topGcdSpec)) topGcdCard

/-- THE TIED CARD OF 'obelisktop.TopSwitch'. -/
def topSwitchCard : Claim7 := { stood := { row := topSwitchRow, standIns := [], harness := (true, "339f997f25aac11184f356e4c17c33e84fc97157e2622f8110c6fb03a3ca0bcf"), looks := false }, kinds := [], alts := [], laidByText := true, laidKinds := [.data, .data, .data, .data, .pinned], laidTests := true, laidLooks := .later }
def TopSwitchCardSaid : Prop := Claim7.holds Tryz.pinned (.plain (OpenSpec.ofChange topSwitchSpec)) topSwitchCard

/-- THE TIED CARD OF 'obelisktop.TopOrderOfErrors'. -/
def topOrderOfErrorsCard : Claim7 := { stood := { row := topOrderOfErrorsRow, standIns := [], harness := (true, "339f997f25aac11184f356e4c17c33e84fc97157e2622f8110c6fb03a3ca0bcf"), looks := false }, kinds := [], alts := [], laidByText := true, laidKinds := [.data, .data, .data, .data, .pinned], laidTests := true, laidLooks := .later }
def TopOrderOfErrorsCardSaid : Prop := Claim7.holds Tryz.pinned (.plain (OpenSpec.ofChange topOrderOfErrorsSpec)) topOrderOfErrorsCard

/-- THE TIED CARD OF 'obelisktop.TopSum'. -/
def topSumCard : Claim7 := { stood := { row := topSumRow, standIns := [], harness := (true, "339f997f25aac11184f356e4c17c33e84fc97157e2622f8110c6fb03a3ca0bcf"), looks := false }, kinds := [], alts := [], laidByText := true, laidKinds := [.data, .data, .data, .data, .pinned], laidTests := true, laidLooks := .later }
def TopSumCardSaid : Prop := Claim7.holds Tryz.pinned (.plain (OpenSpec.ofChange topSumSpec)) topSumCard

/-- THE TIED CARD OF 'obelisktop.TopCaught'. -/
def topCaughtCard : Claim7 := { stood := { row := topCaughtRow, standIns := [], harness := (true, "339f997f25aac11184f356e4c17c33e84fc97157e2622f8110c6fb03a3ca0bcf"), looks := false }, kinds := [], alts := [], laidByText := true, laidKinds := [.data, .data, .data, .data, .pinned], laidTests := true, laidLooks := .later }
def TopCaughtCardSaid : Prop := Claim7.holds Tryz.pinned (.plain (OpenSpec.ofChange topCaughtSpec)) topCaughtCard

/-- THE TIED CARD OF 'obelisktop.TopStatics'. -/
def topStaticsCard : Claim7 := { stood := { row := topStaticsRow, standIns := [], harness := (true, "339f997f25aac11184f356e4c17c33e84fc97157e2622f8110c6fb03a3ca0bcf"), looks := false }, kinds := [], alts := [], laidByText := true, laidKinds := [.data, .data, .data, .data, .pinned], laidTests := true, laidLooks := .later }
def TopStaticsCardSaid : Prop := Claim7.holds Tryz.pinned (.plain (OpenSpec.ofChange topStaticsSpec)) topStaticsCard

/-- THE SECOND FORM's CARD OF 'obelisktop.TopGcd'. -/
def topGcdUptoCard : Claim7 := { stood := { row := topGcdUptoRow, standIns := [], harness := (true, "339f997f25aac11184f356e4c17c33e84fc97157e2622f8110c6fb03a3ca0bcf"), looks := false }, kinds := [], alts := [], laidByText := true, laidKinds := [.data, .data, .data, .data, .pinned], laidTests := true, laidLooks := .later }
def TopGcdUptoCardSaid : Prop := Claim7.holds Tryz.pinned (.plain (OpenSpec.upto topGcdSpec)) topGcdUptoCard

/-- THE SECOND FORM's CARD OF 'obelisktop.TopSwitch'. -/
def topSwitchUptoCard : Claim7 := { stood := { row := topSwitchUptoRow, standIns := [], harness := (true, "339f997f25aac11184f356e4c17c33e84fc97157e2622f8110c6fb03a3ca0bcf"), looks := false }, kinds := [], alts := [], laidByText := true, laidKinds := [.data, .data, .data, .data, .pinned], laidTests := true, laidLooks := .later }
def TopSwitchUptoCardSaid : Prop := Claim7.holds Tryz.pinned (.plain (OpenSpec.upto topSwitchSpec)) topSwitchUptoCard

/-- THE SECOND FORM's CARD OF 'obelisktop.TopOrderOfErrors'. -/
def topOrderOfErrorsUptoCard : Claim7 := { stood := { row := topOrderOfErrorsUptoRow, standIns := [], harness := (true, "339f997f25aac11184f356e4c17c33e84fc97157e2622f8110c6fb03a3ca0bcf"), looks := false }, kinds := [], alts := [], laidByText := true, laidKinds := [.data, .data, .data, .data, .pinned], laidTests := true, laidLooks := .later }
def TopOrderOfErrorsUptoCardSaid : Prop := Claim7.holds Tryz.pinned (.plain (OpenSpec.upto topOrderOfErrorsSpec)) topOrderOfErrorsUptoCard

/-- THE SECOND FORM's CARD OF 'obelisktop.TopSum'. -/
def topSumUptoCard : Claim7 := { stood := { row := topSumUptoRow, standIns := [], harness := (true, "339f997f25aac11184f356e4c17c33e84fc97157e2622f8110c6fb03a3ca0bcf"), looks := false }, kinds := [], alts := [], laidByText := true, laidKinds := [.data, .data, .data, .data, .pinned], laidTests := true, laidLooks := .later }
def TopSumUptoCardSaid : Prop := Claim7.holds Tryz.pinned (.plain (OpenSpec.upto topSumSpec)) topSumUptoCard

/-- THE SECOND FORM's CARD OF 'obelisktop.TopCaught'. -/
def topCaughtUptoCard : Claim7 := { stood := { row := topCaughtUptoRow, standIns := [], harness := (true, "339f997f25aac11184f356e4c17c33e84fc97157e2622f8110c6fb03a3ca0bcf"), looks := false }, kinds := [], alts := [], laidByText := true, laidKinds := [.data, .data, .data, .data, .pinned], laidTests := true, laidLooks := .later }
def TopCaughtUptoCardSaid : Prop := Claim7.holds Tryz.pinned (.plain (OpenSpec.upto topCaughtSpec)) topCaughtUptoCard

/-- THE SECOND FORM's CARD OF 'obelisktop.TopStatics'. -/
def topStaticsUptoCard : Claim7 := { stood := { row := topStaticsUptoRow, standIns := [], harness := (true, "339f997f25aac11184f356e4c17c33e84fc97157e2622f8110c6fb03a3ca0bcf"), looks := false }, kinds := [], alts := [], laidByText := true, laidKinds := [.data, .data, .data, .data, .pinned], laidTests := true, laidLooks := .later }
def TopStaticsUptoCardSaid : Prop := Claim7.holds Tryz.pinned (.plain (OpenSpec.upto topStaticsSpec)) topStaticsUptoCard
end Rows
end Go.Proofs.YtkckdnjocncnhaaGreatDoor
