/-
  DERIVED. GIVEN WITH THE SEED: THE CARDS: each row of YtdknapjpeegooaaGreatDoorRows.lean that lists a variable, with what it lists TIED to the program's text (the seventh form; the later family's looks); each row that meets fmt, with fmt's text TOLD by the authors' own Lean function (tested against real Go, not proved from fmt's source: count such statements apart). THE CARD IS WHAT COUNTS. Prove the row's statement (the work); the ties are given (YtdknapjpeegooaaGreatDoorTie.lean); close each card by the builder's one call (the guide's Derived/Test/ToyasCard.lean, 'card_holds'). Laid BY PROGRAM, IN A SANDBOX (cutbox-door.mjs). By AI agents, Wed Nov 11 2026. No macro, syntax, notation, axiom, sorry.
-/
import Derived.Test.YtdknapjpeegooaaGreatDoorRows
import GoSem.ClaimSeven
namespace Go.Proofs.YtdknapjpeegooaaGreatDoor
namespace Rows

/-- THE TIED CARD OF 'obelisklaw17.HeapKinds'. -/
def heapKindsCard : Claim7 := { stood := { row := heapKindsRow, standIns := [], harness := (true, "1f17cf50900f1abe6db2ff1ce3e3e536c9356d03af4c1a5d9efd766320388b72"), looks := false }, kinds := [], alts := [], laidByText := true, laidKinds := [.data, .pinned], laidTests := true, laidLooks := .later }
def HeapKindsCardSaid : Prop := Claim7.holds Tryz.pinned (.plain (OpenSpec.ofChange heapKindsSpec)) heapKindsCard

/-- THE TIED CARD OF 'obelisklaw17.HeapFull'. -/
def heapFullCard : Claim7 := { stood := { row := heapFullRow, standIns := [], harness := (true, "1f17cf50900f1abe6db2ff1ce3e3e536c9356d03af4c1a5d9efd766320388b72"), looks := false }, kinds := [], alts := [], laidByText := true, laidKinds := [.data, .pinned], laidTests := true, laidLooks := .later }
def HeapFullCardSaid : Prop := Claim7.holds Tryz.pinned (.plain (OpenSpec.ofChange heapFullSpec)) heapFullCard

/-- THE SECOND FORM's CARD OF 'obelisklaw17.HeapKinds'. -/
def heapKindsUptoCard : Claim7 := { stood := { row := heapKindsUptoRow, standIns := [], harness := (true, "1f17cf50900f1abe6db2ff1ce3e3e536c9356d03af4c1a5d9efd766320388b72"), looks := false }, kinds := [], alts := [], laidByText := true, laidKinds := [.data, .pinned], laidTests := true, laidLooks := .later }
def HeapKindsUptoCardSaid : Prop := Claim7.holds Tryz.pinned (.plain (OpenSpec.upto heapKindsSpec)) heapKindsUptoCard

/-- THE SECOND FORM's CARD OF 'obelisklaw17.HeapFull'. -/
def heapFullUptoCard : Claim7 := { stood := { row := heapFullUptoRow, standIns := [], harness := (true, "1f17cf50900f1abe6db2ff1ce3e3e536c9356d03af4c1a5d9efd766320388b72"), looks := false }, kinds := [], alts := [], laidByText := true, laidKinds := [.data, .pinned], laidTests := true, laidLooks := .later }
def HeapFullUptoCardSaid : Prop := Claim7.holds Tryz.pinned (.plain (OpenSpec.upto heapFullSpec)) heapFullUptoCard
end Rows
end Go.Proofs.YtdknapjpeegooaaGreatDoor
