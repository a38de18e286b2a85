/-
  DERIVED. GIVEN WITH THE SEED: THE CARDS: each row of YtnjpgmajapfjeaaGreatDoorRows.lean that lists a variable, with what it lists TIED to the program's text (the seventh form; the later family's looks); each row that meets fmt, with fmt's text TOLD by the authors' own Lean function (tested against real Go, not proved from fmt's source: count such statements apart). THE CARD IS WHAT COUNTS. Prove the row's statement (the work); the ties are given (YtnjpgmajapfjeaaGreatDoorTie.lean); close each card by the builder's one call (the guide's Derived/Test/ToyasCard.lean, 'card_holds'). Laid BY PROGRAM, IN A SANDBOX (cutbox-door.mjs). By AI agents, Wed Nov 11 2026. No macro, syntax, notation, axiom, sorry.
-/
import Derived.Test.YtnjpgmajapfjeaaGreatDoorRows
import GoSem.ClaimSeven
namespace Go.Proofs.YtnjpgmajapfjeaaGreatDoor
namespace Rows

/-- THE TIED CARD OF 'obelisklaw11.TableChain'. -/
def tableChainCard : Claim7 := { stood := { row := tableChainRow, standIns := [], harness := (true, "5f8511cfb1668dab3a2b297e7fa689a78e931bfe0824a866c28eedd23e14fcff"), looks := false }, kinds := [], alts := [], laidByText := true, laidKinds := [.data, .pinned], laidTests := true, laidLooks := .later }
def TableChainCardSaid : Prop := Claim7.holds Tryz.pinned (.plain (OpenSpec.ofChange tableChainSpec)) tableChainCard

/-- THE TIED CARD OF 'obelisklaw11.TableAbove'. -/
def tableAboveCard : Claim7 := { stood := { row := tableAboveRow, standIns := [], harness := (true, "5f8511cfb1668dab3a2b297e7fa689a78e931bfe0824a866c28eedd23e14fcff"), looks := false }, kinds := [], alts := [], laidByText := true, laidKinds := [.data, .pinned], laidTests := true, laidLooks := .later }
def TableAboveCardSaid : Prop := Claim7.holds Tryz.pinned (.plain (OpenSpec.ofChange tableAboveSpec)) tableAboveCard

/-- THE SECOND FORM's CARD OF 'obelisklaw11.TableChain'. -/
def tableChainUptoCard : Claim7 := { stood := { row := tableChainUptoRow, standIns := [], harness := (true, "5f8511cfb1668dab3a2b297e7fa689a78e931bfe0824a866c28eedd23e14fcff"), looks := false }, kinds := [], alts := [], laidByText := true, laidKinds := [.data, .pinned], laidTests := true, laidLooks := .later }
def TableChainUptoCardSaid : Prop := Claim7.holds Tryz.pinned (.plain (OpenSpec.upto tableChainSpec)) tableChainUptoCard

/-- THE SECOND FORM's CARD OF 'obelisklaw11.TableAbove'. -/
def tableAboveUptoCard : Claim7 := { stood := { row := tableAboveUptoRow, standIns := [], harness := (true, "5f8511cfb1668dab3a2b297e7fa689a78e931bfe0824a866c28eedd23e14fcff"), looks := false }, kinds := [], alts := [], laidByText := true, laidKinds := [.data, .pinned], laidTests := true, laidLooks := .later }
def TableAboveUptoCardSaid : Prop := Claim7.holds Tryz.pinned (.plain (OpenSpec.upto tableAboveSpec)) tableAboveUptoCard
end Rows
end Go.Proofs.YtnjpgmajapfjeaaGreatDoor
