/-
  DERIVED. GIVEN WITH THE SEED: THE CARDS: each row of YtlfinnicdpiaaaaGreatDoorRows.lean that lists a variable, with what it lists TIED to the program's text (the seventh form; the later family's looks); each row that meets fmt, with fmt's text TOLD by the authors' own Lean function (tested against real Go, not proved from fmt's source: count such statements apart). THE CARD IS WHAT COUNTS. Prove the row's statement (the work); the ties are given (YtlfinnicdpiaaaaGreatDoorTie.lean); close each card by the builder's one call (the guide's Derived/Test/ToyasCard.lean, 'card_holds'). Laid BY PROGRAM, IN A SANDBOX (cutbox-door.mjs). By AI agents, Wed Nov 11 2026. No macro, syntax, notation, axiom, sorry.
-/
import Derived.Test.YtlfinnicdpiaaaaGreatDoorRows
import GoSem.ClaimSeven
namespace Go.Proofs.YtlfinnicdpiaaaaGreatDoor
namespace Rows

/-- THE TIED CARD OF 'obelisklaw9.ClassFlags'. -/
def classFlagsCard : Claim7 := { stood := { row := classFlagsRow, standIns := [], harness := (true, "438fe5ce67a3729580e7641ae1189c7e43fa82e2d902e1d7b13c583c1417e6f0"), looks := false }, kinds := [], alts := [], laidByText := true, laidKinds := [.data, .pinned], laidTests := true, laidLooks := .later }
def ClassFlagsCardSaid : Prop := Claim7.holds Tryz.pinned (.plain (OpenSpec.ofChange classFlagsSpec)) classFlagsCard

/-- THE TIED CARD OF 'obelisklaw9.ClassInits'. -/
def classInitsCard : Claim7 := { stood := { row := classInitsRow, standIns := [], harness := (true, "438fe5ce67a3729580e7641ae1189c7e43fa82e2d902e1d7b13c583c1417e6f0"), looks := false }, kinds := [], alts := [], laidByText := true, laidKinds := [.data, .pinned], laidTests := true, laidLooks := .later }
def ClassInitsCardSaid : Prop := Claim7.holds Tryz.pinned (.plain (OpenSpec.ofChange classInitsSpec)) classInitsCard

/-- THE SECOND FORM's CARD OF 'obelisklaw9.ClassFlags'. -/
def classFlagsUptoCard : Claim7 := { stood := { row := classFlagsUptoRow, standIns := [], harness := (true, "438fe5ce67a3729580e7641ae1189c7e43fa82e2d902e1d7b13c583c1417e6f0"), looks := false }, kinds := [], alts := [], laidByText := true, laidKinds := [.data, .pinned], laidTests := true, laidLooks := .later }
def ClassFlagsUptoCardSaid : Prop := Claim7.holds Tryz.pinned (.plain (OpenSpec.upto classFlagsSpec)) classFlagsUptoCard

/-- THE SECOND FORM's CARD OF 'obelisklaw9.ClassInits'. -/
def classInitsUptoCard : Claim7 := { stood := { row := classInitsUptoRow, standIns := [], harness := (true, "438fe5ce67a3729580e7641ae1189c7e43fa82e2d902e1d7b13c583c1417e6f0"), looks := false }, kinds := [], alts := [], laidByText := true, laidKinds := [.data, .pinned], laidTests := true, laidLooks := .later }
def ClassInitsUptoCardSaid : Prop := Claim7.holds Tryz.pinned (.plain (OpenSpec.upto classInitsSpec)) classInitsUptoCard
end Rows
end Go.Proofs.YtlfinnicdpiaaaaGreatDoor
