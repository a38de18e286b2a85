/-
  DERIVED. GIVEN WITH THE SEED: THE CARDS: each row of YtbabfeloandpdaaGreatDoorRows.lean that lists a variable, with what it lists TIED to the program's text (the seventh form; the later family's looks); each row that meets fmt, with fmt's text TOLD by the authors' own Lean function (tested against real Go, not proved from fmt's source: count such statements apart). THE CARD IS WHAT COUNTS. Prove the row's statement (the work); the ties are given (YtbabfeloandpdaaGreatDoorTie.lean); close each card by the builder's one call (the guide's Derived/Test/ToyasCard.lean, 'card_holds'). Laid BY PROGRAM, IN A SANDBOX (cutbox-door.mjs). By AI agents, Wed Nov 11 2026. No macro, syntax, notation, axiom, sorry.
-/
import Derived.Test.YtbabfeloandpdaaGreatDoorRows
import GoSem.ClaimSeven
namespace Go.Proofs.YtbabfeloandpdaaGreatDoor
namespace Rows

/-- THE TIED CARD OF 'obelisklaw18.CollectChain'. -/
def collectChainCard : Claim7 := { stood := { row := collectChainRow, standIns := [], harness := (true, "500a83eede8738e32b6c5fd652f231c1ac89639193b78937aee57b5b8459d0f6"), looks := false }, kinds := [], alts := [], laidByText := true, laidKinds := [.data, .pinned], laidTests := true, laidLooks := .later }
def CollectChainCardSaid : Prop := Claim7.holds Tryz.pinned (.plain (OpenSpec.ofChange collectChainSpec)) collectChainCard

/-- THE TIED CARD OF 'obelisklaw18.CollectAll'. -/
def collectAllCard : Claim7 := { stood := { row := collectAllRow, standIns := [], harness := (true, "500a83eede8738e32b6c5fd652f231c1ac89639193b78937aee57b5b8459d0f6"), looks := false }, kinds := [], alts := [], laidByText := true, laidKinds := [.data, .pinned], laidTests := true, laidLooks := .later }
def CollectAllCardSaid : Prop := Claim7.holds Tryz.pinned (.plain (OpenSpec.ofChange collectAllSpec)) collectAllCard

/-- THE SECOND FORM's CARD OF 'obelisklaw18.CollectChain'. -/
def collectChainUptoCard : Claim7 := { stood := { row := collectChainUptoRow, standIns := [], harness := (true, "500a83eede8738e32b6c5fd652f231c1ac89639193b78937aee57b5b8459d0f6"), looks := false }, kinds := [], alts := [], laidByText := true, laidKinds := [.data, .pinned], laidTests := true, laidLooks := .later }
def CollectChainUptoCardSaid : Prop := Claim7.holds Tryz.pinned (.plain (OpenSpec.upto collectChainSpec)) collectChainUptoCard

/-- THE SECOND FORM's CARD OF 'obelisklaw18.CollectAll'. -/
def collectAllUptoCard : Claim7 := { stood := { row := collectAllUptoRow, standIns := [], harness := (true, "500a83eede8738e32b6c5fd652f231c1ac89639193b78937aee57b5b8459d0f6"), looks := false }, kinds := [], alts := [], laidByText := true, laidKinds := [.data, .pinned], laidTests := true, laidLooks := .later }
def CollectAllUptoCardSaid : Prop := Claim7.holds Tryz.pinned (.plain (OpenSpec.upto collectAllSpec)) collectAllUptoCard
end Rows
end Go.Proofs.YtbabfeloandpdaaGreatDoor
