/-
  DERIVED. GIVEN WITH THE SEED: THE CARDS: each row of YtfkfmjlppllfoaaGreatDoorRows.lean that lists a variable, with what it lists TIED to the program's text (the seventh form; the later family's looks); each row that meets fmt, with fmt's text TOLD by the authors' own Lean function (tested against real Go, not proved from fmt's source: count such statements apart). THE CARD IS WHAT COUNTS. Prove the row's statement (the work); the ties are given (YtfkfmjlppllfoaaGreatDoorTie.lean); close each card by the builder's one call (the guide's Derived/Test/ToyasCard.lean, 'card_holds'). Laid BY PROGRAM, IN A SANDBOX (cutbox-door.mjs). By AI agents, Wed Nov 11 2026. No macro, syntax, notation, axiom, sorry.
-/
import Derived.Test.YtfkfmjlppllfoaaGreatDoorRows
import GoSem.ClaimSeven
namespace Go.Proofs.YtfkfmjlppllfoaaGreatDoor
namespace Rows

/-- THE TIED CARD OF 'obelisktop.TopSieve'. -/
def topSieveCard : Claim7 := { stood := { row := topSieveRow, standIns := [], harness := (true, "a16ddd3164b1f7374c6a0c15875d6fe1713504ed2f30f1e3b8a1b4efed35d7d1"), looks := false }, kinds := [], alts := [], laidByText := true, laidKinds := [.data, .data, .data, .data, .pinned], laidTests := true, laidLooks := .later }
def TopSieveCardSaid : Prop := Claim7.holds Tryz.pinned (.plain (OpenSpec.ofChange topSieveSpec)) topSieveCard

/-- THE TIED CARD OF 'obelisktop.TopUnwind'. -/
def topUnwindCard : Claim7 := { stood := { row := topUnwindRow, standIns := [], harness := (true, "a16ddd3164b1f7374c6a0c15875d6fe1713504ed2f30f1e3b8a1b4efed35d7d1"), looks := false }, kinds := [], alts := [], laidByText := true, laidKinds := [.data, .data, .data, .data, .pinned], laidTests := true, laidLooks := .later }
def TopUnwindCardSaid : Prop := Claim7.holds Tryz.pinned (.plain (OpenSpec.ofChange topUnwindSpec)) topUnwindCard

/-- THE TIED CARD OF 'obelisktop.TopMutual'. -/
def topMutualCard : Claim7 := { stood := { row := topMutualRow, standIns := [], harness := (true, "a16ddd3164b1f7374c6a0c15875d6fe1713504ed2f30f1e3b8a1b4efed35d7d1"), looks := false }, kinds := [], alts := [], laidByText := true, laidKinds := [.data, .data, .data, .data, .pinned], laidTests := true, laidLooks := .later }
def TopMutualCardSaid : Prop := Claim7.holds Tryz.pinned (.plain (OpenSpec.ofChange topMutualSpec)) topMutualCard

/-- THE TIED CARD OF 'obelisktop.TopTree'. -/
def topTreeCard : Claim7 := { stood := { row := topTreeRow, standIns := [], harness := (true, "a16ddd3164b1f7374c6a0c15875d6fe1713504ed2f30f1e3b8a1b4efed35d7d1"), looks := false }, kinds := [], alts := [], laidByText := true, laidKinds := [.data, .data, .data, .data, .pinned], laidTests := true, laidLooks := .later }
def TopTreeCardSaid : Prop := Claim7.holds Tryz.pinned (.plain (OpenSpec.ofChange topTreeSpec)) topTreeCard

/-- THE TIED CARD OF 'obelisktop.TopDeep'. -/
def topDeepCard : Claim7 := { stood := { row := topDeepRow, standIns := [], harness := (true, "a16ddd3164b1f7374c6a0c15875d6fe1713504ed2f30f1e3b8a1b4efed35d7d1"), looks := false }, kinds := [], alts := [], laidByText := true, laidKinds := [.data, .data, .data, .data, .pinned], laidTests := true, laidLooks := .later }
def TopDeepCardSaid : Prop := Claim7.holds Tryz.pinned (.plain (OpenSpec.ofChange topDeepSpec)) topDeepCard

/-- THE TIED CARD OF 'obelisktop.TopFib'. -/
def topFibCard : Claim7 := { stood := { row := topFibRow, standIns := [], harness := (true, "a16ddd3164b1f7374c6a0c15875d6fe1713504ed2f30f1e3b8a1b4efed35d7d1"), looks := false }, kinds := [], alts := [], laidByText := true, laidKinds := [.data, .data, .data, .data, .pinned], laidTests := true, laidLooks := .later }
def TopFibCardSaid : Prop := Claim7.holds Tryz.pinned (.plain (OpenSpec.ofChange topFibSpec)) topFibCard

/-- THE SECOND FORM's CARD OF 'obelisktop.TopSieve'. -/
def topSieveUptoCard : Claim7 := { stood := { row := topSieveUptoRow, standIns := [], harness := (true, "a16ddd3164b1f7374c6a0c15875d6fe1713504ed2f30f1e3b8a1b4efed35d7d1"), looks := false }, kinds := [], alts := [], laidByText := true, laidKinds := [.data, .data, .data, .data, .pinned], laidTests := true, laidLooks := .later }
def TopSieveUptoCardSaid : Prop := Claim7.holds Tryz.pinned (.plain (OpenSpec.upto topSieveSpec)) topSieveUptoCard

/-- THE SECOND FORM's CARD OF 'obelisktop.TopUnwind'. -/
def topUnwindUptoCard : Claim7 := { stood := { row := topUnwindUptoRow, standIns := [], harness := (true, "a16ddd3164b1f7374c6a0c15875d6fe1713504ed2f30f1e3b8a1b4efed35d7d1"), looks := false }, kinds := [], alts := [], laidByText := true, laidKinds := [.data, .data, .data, .data, .pinned], laidTests := true, laidLooks := .later }
def TopUnwindUptoCardSaid : Prop := Claim7.holds Tryz.pinned (.plain (OpenSpec.upto topUnwindSpec)) topUnwindUptoCard

/-- THE SECOND FORM's CARD OF 'obelisktop.TopMutual'. -/
def topMutualUptoCard : Claim7 := { stood := { row := topMutualUptoRow, standIns := [], harness := (true, "a16ddd3164b1f7374c6a0c15875d6fe1713504ed2f30f1e3b8a1b4efed35d7d1"), looks := false }, kinds := [], alts := [], laidByText := true, laidKinds := [.data, .data, .data, .data, .pinned], laidTests := true, laidLooks := .later }
def TopMutualUptoCardSaid : Prop := Claim7.holds Tryz.pinned (.plain (OpenSpec.upto topMutualSpec)) topMutualUptoCard

/-- THE SECOND FORM's CARD OF 'obelisktop.TopTree'. -/
def topTreeUptoCard : Claim7 := { stood := { row := topTreeUptoRow, standIns := [], harness := (true, "a16ddd3164b1f7374c6a0c15875d6fe1713504ed2f30f1e3b8a1b4efed35d7d1"), looks := false }, kinds := [], alts := [], laidByText := true, laidKinds := [.data, .data, .data, .data, .pinned], laidTests := true, laidLooks := .later }
def TopTreeUptoCardSaid : Prop := Claim7.holds Tryz.pinned (.plain (OpenSpec.upto topTreeSpec)) topTreeUptoCard

/-- THE SECOND FORM's CARD OF 'obelisktop.TopDeep'. -/
def topDeepUptoCard : Claim7 := { stood := { row := topDeepUptoRow, standIns := [], harness := (true, "a16ddd3164b1f7374c6a0c15875d6fe1713504ed2f30f1e3b8a1b4efed35d7d1"), looks := false }, kinds := [], alts := [], laidByText := true, laidKinds := [.data, .data, .data, .data, .pinned], laidTests := true, laidLooks := .later }
def TopDeepUptoCardSaid : Prop := Claim7.holds Tryz.pinned (.plain (OpenSpec.upto topDeepSpec)) topDeepUptoCard

/-- THE SECOND FORM's CARD OF 'obelisktop.TopFib'. -/
def topFibUptoCard : Claim7 := { stood := { row := topFibUptoRow, standIns := [], harness := (true, "a16ddd3164b1f7374c6a0c15875d6fe1713504ed2f30f1e3b8a1b4efed35d7d1"), looks := false }, kinds := [], alts := [], laidByText := true, laidKinds := [.data, .data, .data, .data, .pinned], laidTests := true, laidLooks := .later }
def TopFibUptoCardSaid : Prop := Claim7.holds Tryz.pinned (.plain (OpenSpec.upto topFibSpec)) topFibUptoCard
end Rows
end Go.Proofs.YtfkfmjlppllfoaaGreatDoor
