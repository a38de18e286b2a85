/-
  DERIVED. GIVEN WITH THE SEED: THE CARDS: each row of YtkkaifeiopjjdaaGreatDoorRows.lean that lists a variable, with what it lists TIED to the program's text (the seventh form; the later family's looks); each row that meets fmt, with fmt's text TOLD by the authors' own Lean function (tested against real Go, not proved from fmt's source: count such statements apart). THE CARD IS WHAT COUNTS. Prove the row's statement (the work); the ties are given (YtkkaifeiopjjdaaGreatDoorTie.lean); close each card by the builder's one call (the guide's Derived/Test/ToyasCard.lean, 'card_holds'). Laid BY PROGRAM, IN A SANDBOX (cutbox-door.mjs). By AI agents, Wed Nov 11 2026. No macro, syntax, notation, axiom, sorry.
-/
import Derived.Test.YtkkaifeiopjjdaaGreatDoorRows
import GoSem.ClaimSeven
namespace Go.Proofs.YtkkaifeiopjjdaaGreatDoor
namespace Rows

/-- THE TIED CARD OF 'obelisklaw24.NativeString'. -/
def nativeStringCard : Claim7 := { stood := { row := nativeStringRow, standIns := [], harness := (true, "5116dcf6fea3b98d062171be377b1222c71faaf91fdcce28a7e4b2eddfd5c017"), looks := false }, kinds := [], alts := [], laidByText := true, laidKinds := [.data, .data, .data, .data, .pinned], laidTests := true, laidLooks := .later }
def NativeStringCardSaid : Prop := Claim7.holds Tryz.pinned (.plain (OpenSpec.ofChange nativeStringSpec)) nativeStringCard

/-- THE TIED CARD OF 'obelisklaw24.NativeBuilder'. -/
def nativeBuilderCard : Claim7 := { stood := { row := nativeBuilderRow, standIns := [], harness := (true, "5116dcf6fea3b98d062171be377b1222c71faaf91fdcce28a7e4b2eddfd5c017"), looks := false }, kinds := [], alts := [], laidByText := true, laidKinds := [.data, .data, .data, .data, .pinned], laidTests := true, laidLooks := .later }
def NativeBuilderCardSaid : Prop := Claim7.holds Tryz.pinned (.plain (OpenSpec.ofChange nativeBuilderSpec)) nativeBuilderCard

/-- THE TIED CARD OF 'obelisklaw24.NativePrint'. -/
def nativePrintCard : Claim7 := { stood := { row := nativePrintRow, standIns := [], harness := (true, "5116dcf6fea3b98d062171be377b1222c71faaf91fdcce28a7e4b2eddfd5c017"), looks := false }, kinds := [], alts := [], laidByText := true, laidKinds := [.data, .data, .data, .data, .pinned], laidTests := true, laidLooks := .later }
def NativePrintCardSaid : Prop := Claim7.holds Tryz.pinned (.plain (OpenSpec.ofChange nativePrintSpec)) nativePrintCard

/-- THE SECOND FORM's CARD OF 'obelisklaw24.NativeString'. -/
def nativeStringUptoCard : Claim7 := { stood := { row := nativeStringUptoRow, standIns := [], harness := (true, "5116dcf6fea3b98d062171be377b1222c71faaf91fdcce28a7e4b2eddfd5c017"), looks := false }, kinds := [], alts := [], laidByText := true, laidKinds := [.data, .data, .data, .data, .pinned], laidTests := true, laidLooks := .later }
def NativeStringUptoCardSaid : Prop := Claim7.holds Tryz.pinned (.plain (OpenSpec.upto nativeStringSpec)) nativeStringUptoCard

/-- THE SECOND FORM's CARD OF 'obelisklaw24.NativeBuilder'. -/
def nativeBuilderUptoCard : Claim7 := { stood := { row := nativeBuilderUptoRow, standIns := [], harness := (true, "5116dcf6fea3b98d062171be377b1222c71faaf91fdcce28a7e4b2eddfd5c017"), looks := false }, kinds := [], alts := [], laidByText := true, laidKinds := [.data, .data, .data, .data, .pinned], laidTests := true, laidLooks := .later }
def NativeBuilderUptoCardSaid : Prop := Claim7.holds Tryz.pinned (.plain (OpenSpec.upto nativeBuilderSpec)) nativeBuilderUptoCard

/-- THE SECOND FORM's CARD OF 'obelisklaw24.NativePrint'. -/
def nativePrintUptoCard : Claim7 := { stood := { row := nativePrintUptoRow, standIns := [], harness := (true, "5116dcf6fea3b98d062171be377b1222c71faaf91fdcce28a7e4b2eddfd5c017"), looks := false }, kinds := [], alts := [], laidByText := true, laidKinds := [.data, .data, .data, .data, .pinned], laidTests := true, laidLooks := .later }
def NativePrintUptoCardSaid : Prop := Claim7.holds Tryz.pinned (.plain (OpenSpec.upto nativePrintSpec)) nativePrintUptoCard
end Rows
end Go.Proofs.YtkkaifeiopjjdaaGreatDoor
