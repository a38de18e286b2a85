/-
  DERIVED. GIVEN WITH THE SEED: THE CARDS: each row of YtgejhjencodinaaGreatDoorRows.lean that lists a variable, with what it lists TIED to the program's text (the seventh form; the later family's looks); each row that meets fmt, with fmt's text TOLD by the authors' own Lean function (tested against real Go, not proved from fmt's source: count such statements apart). THE CARD IS WHAT COUNTS. Prove the row's statement (the work); the ties are given (YtgejhjencodinaaGreatDoorTie.lean); close each card by the builder's one call (the guide's Derived/Test/ToyasCard.lean, 'card_holds'). Laid BY PROGRAM, IN A SANDBOX (cutbox-door.mjs). By AI agents, Wed Nov 11 2026. No macro, syntax, notation, axiom, sorry.
-/
import Derived.Test.YtgejhjencodinaaGreatDoorRows
import GoSem.ClaimSeven
namespace Go.Proofs.YtgejhjencodinaaGreatDoor
namespace Rows

/-- THE TIED CARD OF 'obelisklaw24.NativeThrowable'. -/
def nativeThrowableCard : Claim7 := { stood := { row := nativeThrowableRow, standIns := [], harness := (true, "6e49e0063f06305020d457b95590f90fdc9bb81ff841a0a9b419a710405f68fa"), looks := false }, kinds := [], alts := [], laidByText := true, laidKinds := [.data, .data, .data, .data, .pinned], laidTests := true, laidLooks := .later }
def NativeThrowableCardSaid : Prop := Claim7.holds Tryz.pinned (.plain (OpenSpec.ofChange nativeThrowableSpec)) nativeThrowableCard

/-- THE TIED CARD OF 'obelisklaw24.NativeCopy'. -/
def nativeCopyCard : Claim7 := { stood := { row := nativeCopyRow, standIns := [], harness := (true, "6e49e0063f06305020d457b95590f90fdc9bb81ff841a0a9b419a710405f68fa"), looks := false }, kinds := [], alts := [], laidByText := true, laidKinds := [.data, .data, .data, .data, .pinned], laidTests := true, laidLooks := .later }
def NativeCopyCardSaid : Prop := Claim7.holds Tryz.pinned (.plain (OpenSpec.ofChange nativeCopySpec)) nativeCopyCard

/-- THE SECOND FORM's CARD OF 'obelisklaw24.NativeThrowable'. -/
def nativeThrowableUptoCard : Claim7 := { stood := { row := nativeThrowableUptoRow, standIns := [], harness := (true, "6e49e0063f06305020d457b95590f90fdc9bb81ff841a0a9b419a710405f68fa"), looks := false }, kinds := [], alts := [], laidByText := true, laidKinds := [.data, .data, .data, .data, .pinned], laidTests := true, laidLooks := .later }
def NativeThrowableUptoCardSaid : Prop := Claim7.holds Tryz.pinned (.plain (OpenSpec.upto nativeThrowableSpec)) nativeThrowableUptoCard

/-- THE SECOND FORM's CARD OF 'obelisklaw24.NativeCopy'. -/
def nativeCopyUptoCard : Claim7 := { stood := { row := nativeCopyUptoRow, standIns := [], harness := (true, "6e49e0063f06305020d457b95590f90fdc9bb81ff841a0a9b419a710405f68fa"), looks := false }, kinds := [], alts := [], laidByText := true, laidKinds := [.data, .data, .data, .data, .pinned], laidTests := true, laidLooks := .later }
def NativeCopyUptoCardSaid : Prop := Claim7.holds Tryz.pinned (.plain (OpenSpec.upto nativeCopySpec)) nativeCopyUptoCard
end Rows
end Go.Proofs.YtgejhjencodinaaGreatDoor
