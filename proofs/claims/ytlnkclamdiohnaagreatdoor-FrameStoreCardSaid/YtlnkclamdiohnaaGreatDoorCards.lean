/-
  DERIVED. GIVEN WITH THE SEED: THE CARDS: each row of YtlnkclamdiohnaaGreatDoorRows.lean that lists a variable, with what it lists TIED to the program's text (the seventh form; the later family's looks); each row that meets fmt, with fmt's text TOLD by the authors' own Lean function (tested against real Go, not proved from fmt's source: count such statements apart). THE CARD IS WHAT COUNTS. Prove the row's statement (the work); the ties are given (YtlnkclamdiohnaaGreatDoorTie.lean); close each card by the builder's one call (the guide's Derived/Test/ToyasCard.lean, 'card_holds'). Laid BY PROGRAM, IN A SANDBOX (cutbox-door.mjs). By AI agents, Wed Nov 11 2026. No macro, syntax, notation, axiom, sorry.
-/
import Derived.Test.YtlnkclamdiohnaaGreatDoorRows
import GoSem.ClaimSeven
namespace Go.Proofs.YtlnkclamdiohnaaGreatDoor
namespace Rows

/-- THE TIED CARD OF 'obelisklaw13.FramePush'. -/
def framePushCard : Claim7 := { stood := { row := framePushRow, standIns := [], harness := (true, "7f7d49f9e96468c1f21ec406591dec839fece0627c8635f26407799f837af6de"), looks := false }, kinds := [], alts := [], laidByText := true, laidKinds := [.data, .pinned], laidTests := true, laidLooks := .later }
def FramePushCardSaid : Prop := Claim7.holds Tryz.pinned (.plain (OpenSpec.ofChange framePushSpec)) framePushCard

/-- THE TIED CARD OF 'obelisklaw13.FrameStore'. -/
def frameStoreCard : Claim7 := { stood := { row := frameStoreRow, standIns := [], harness := (true, "7f7d49f9e96468c1f21ec406591dec839fece0627c8635f26407799f837af6de"), looks := false }, kinds := [], alts := [], laidByText := true, laidKinds := [.data, .pinned], laidTests := true, laidLooks := .later }
def FrameStoreCardSaid : Prop := Claim7.holds Tryz.pinned (.plain (OpenSpec.ofChange frameStoreSpec)) frameStoreCard

/-- THE SECOND FORM's CARD OF 'obelisklaw13.FramePush'. -/
def framePushUptoCard : Claim7 := { stood := { row := framePushUptoRow, standIns := [], harness := (true, "7f7d49f9e96468c1f21ec406591dec839fece0627c8635f26407799f837af6de"), looks := false }, kinds := [], alts := [], laidByText := true, laidKinds := [.data, .pinned], laidTests := true, laidLooks := .later }
def FramePushUptoCardSaid : Prop := Claim7.holds Tryz.pinned (.plain (OpenSpec.upto framePushSpec)) framePushUptoCard

/-- THE SECOND FORM's CARD OF 'obelisklaw13.FrameStore'. -/
def frameStoreUptoCard : Claim7 := { stood := { row := frameStoreUptoRow, standIns := [], harness := (true, "7f7d49f9e96468c1f21ec406591dec839fece0627c8635f26407799f837af6de"), looks := false }, kinds := [], alts := [], laidByText := true, laidKinds := [.data, .pinned], laidTests := true, laidLooks := .later }
def FrameStoreUptoCardSaid : Prop := Claim7.holds Tryz.pinned (.plain (OpenSpec.upto frameStoreSpec)) frameStoreUptoCard
end Rows
end Go.Proofs.YtlnkclamdiohnaaGreatDoor
