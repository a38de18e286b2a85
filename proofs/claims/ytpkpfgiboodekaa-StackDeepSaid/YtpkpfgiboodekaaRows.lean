/-
  No cell of these rows narrows 'for every input' (looked for: loops, veiled, ifaces, maps, wideKeys, modest, calm, conditions, laid).
  DERIVED. THE GIVEN ROWS OF THIS SEAT. 3 by the template 'for every input the law returns true; each argument reads behind the call as it read before'; 0 by the template 'total and deterministic' (their statements: YtpkpfgiboodekaaTotals.lean).
  GIVEN WITH THE SEED: the statements are not yours to turn. If you find one false, say at which input.
  Laid BY PROGRAM, IN A SANDBOX (cutbox-rows.mjs): the forced cells as the released guide's own fill.sh prints them over the translation fb5cdeb29c73d622… (all of the seat's roots in one cut). By AI agents, Wed Nov 11 2026. No macro, syntax, notation, axiom, sorry.
-/
import Derived.Test.YtpkpfgiboodekaaChecked
import GoSem.Claim
import GoSem.ClaimJoined
import GoSem.ClaimMapViews
import Derived.JoinedTies
import Derived.KernelRfl
namespace Go.Proofs.Ytpkpfgiboodekaa
/- THE CELL 'sum', in the pinned program and in every row, IS THE sha256 OF THE DUMP (.gsa) THAT YtpkpfgiboodekaaProg.lean LOADS. Nothing in Lean hashes anything: it is a label: what it is worth is what the hold of that sum in a sandbox is worth. -/
noncomputable def Try.pinned : Pinned := { name := "ytpkpfgiboodekaa", sum := "fb5cdeb29c73d62225bcb9d5fd70cf028b6fbb24de3d68c7242c102e0458760e", checked := Try.checked }
namespace Rows
def none {H : Type} : Left H := { results := [], args := [] }

/-- 'obelisklaw20.StackFull': WHATEVER THE INPUT: true; the input reads as it did. -/
def stackFullSpec : ChangeSpec := { name := "stackFull", fn := fun _ => fun
  | [d1, d2] => { results := [.lit (.bool true)], args := [d1, d2] }
  | _ => none }
def stackFullRow : OpenClaim := { program := "ytpkpfgiboodekaa", sum := "fb5cdeb29c73d62225bcb9d5fd70cf028b6fbb24de3d68c7242c102e0458760e", func := "obelisk/obelisklaw20.StackFull", spec := "stackFull", apart := false }
def StackFullSaid : Prop := stackFullRow.holds Try.pinned (OpenSpec.ofChange stackFullSpec)

/-- ITS FALSE NEIGHBOUR: 'it returns false'. Refute it at one input. -/
def stackFullWrong : ChangeSpec := { name := "stackFull", fn := fun _ => fun
  | [d1, d2] => { results := [.lit (.bool false)], args := [d1, d2] }
  | _ => none }
def StackFullWrongFalsely : Prop := stackFullRow.holds Try.pinned (OpenSpec.ofChange stackFullWrong)

/-- 'obelisklaw20.StackDeep': WHATEVER THE INPUT: true; the input reads as it did. -/
def stackDeepSpec : ChangeSpec := { name := "stackDeep", fn := fun _ => fun
  | [d1, d2] => { results := [.lit (.bool true)], args := [d1, d2] }
  | _ => none }
def stackDeepRow : OpenClaim := { program := "ytpkpfgiboodekaa", sum := "fb5cdeb29c73d62225bcb9d5fd70cf028b6fbb24de3d68c7242c102e0458760e", func := "obelisk/obelisklaw20.StackDeep", spec := "stackDeep", apart := false }
def StackDeepSaid : Prop := stackDeepRow.holds Try.pinned (OpenSpec.ofChange stackDeepSpec)

/-- ITS FALSE NEIGHBOUR: 'it returns false'. Refute it at one input. -/
def stackDeepWrong : ChangeSpec := { name := "stackDeep", fn := fun _ => fun
  | [d1, d2] => { results := [.lit (.bool false)], args := [d1, d2] }
  | _ => none }
def StackDeepWrongFalsely : Prop := stackDeepRow.holds Try.pinned (OpenSpec.ofChange stackDeepWrong)

/-- 'obelisklaw20.StackAll': WHATEVER THE INPUT: true; the input reads as it did. -/
def stackAllSpec : ChangeSpec := { name := "stackAll", fn := fun _ => fun
  | [d] => { results := [.lit (.bool true)], args := [d] }
  | _ => none }
def stackAllRow : OpenClaim := { program := "ytpkpfgiboodekaa", sum := "fb5cdeb29c73d62225bcb9d5fd70cf028b6fbb24de3d68c7242c102e0458760e", func := "obelisk/obelisklaw20.StackAll", spec := "stackAll", apart := false }
def StackAllSaid : Prop := stackAllRow.holds Try.pinned (OpenSpec.ofChange stackAllSpec)

/-- ITS FALSE NEIGHBOUR: 'it returns false'. Refute it at one input. -/
def stackAllWrong : ChangeSpec := { name := "stackAll", fn := fun _ => fun
  | [d] => { results := [.lit (.bool false)], args := [d] }
  | _ => none }
def StackAllWrongFalsely : Prop := stackAllRow.holds Try.pinned (OpenSpec.ofChange stackAllWrong)

/- THE SECOND FORM. 'bulk': how many values and letters a reading holds, each counted each time it is reached (what is shared counts as often as it is met; a slice's spare places count too). A statement '..UptoSaid' is the law's where the arguments, and the package variables that the reading takes, are together of bulk at most 1048576: NARROWER than '..Said'. Prove '..Said' where nothing that the law and all that it calls make is longer than what came in: it says more and counts as full. Else prove '..UptoSaid'. A law counts once. -/
mutual
def uptoBulk {H : Type} : DataW H → Nat
  | .lit (.string bytes) => bytes.length + 1
  | .lit _ => 1
  | .nil => 1
  | .ptr d => uptoBulk d + 1
  | .slice elems spare => uptoBulkAll elems + uptoBulkAll spare + 1
  | .agg parts => uptoBulkAll parts + 1
  | .iface _ d => uptoBulk d + 1
  | .map entries => uptoBulkEntries entries + 1
  | .held _ => 1
def uptoBulkAll {H : Type} : List (DataW H) → Nat
  | [] => 0
  | d :: r => uptoBulk d + uptoBulkAll r
def uptoBulkEntries {H : Type} : List (Lit × DataW H) → Nat
  | [] => 0
  | x :: r => uptoBulkEntry x + uptoBulkEntries r
def uptoBulkEntry {H : Type} : Lit × DataW H → Nat
  | (.string bytes, d) => bytes.length + uptoBulk d + 1
  | (_, d) => uptoBulk d + 1
 end
def uptoSmall : (H : Type) → List (DataW H) → Bool := fun _ ds => decide (uptoBulkAll ds ≤ 1048576)
def OpenSpec.upto (s : _root_.Go.ChangeSpec) : _root_.Go.OpenSpec := { _root_.Go.OpenSpec.ofChange s with cond := some uptoSmall }

/-- 'obelisklaw20.StackFull', WHERE WHAT IT READS IS OF BULK AT MOST 1048576: true; the input reads as it did. -/
def stackFullUptoRow : OpenClaim := { program := "ytpkpfgiboodekaa", sum := "fb5cdeb29c73d62225bcb9d5fd70cf028b6fbb24de3d68c7242c102e0458760e", func := "obelisk/obelisklaw20.StackFull", spec := "stackFull", apart := false, narrowed := true }
def StackFullUptoSaid : Prop := stackFullUptoRow.holds Try.pinned (OpenSpec.upto stackFullSpec)

/-- 'obelisklaw20.StackDeep', WHERE WHAT IT READS IS OF BULK AT MOST 1048576: true; the input reads as it did. -/
def stackDeepUptoRow : OpenClaim := { program := "ytpkpfgiboodekaa", sum := "fb5cdeb29c73d62225bcb9d5fd70cf028b6fbb24de3d68c7242c102e0458760e", func := "obelisk/obelisklaw20.StackDeep", spec := "stackDeep", apart := false, narrowed := true }
def StackDeepUptoSaid : Prop := stackDeepUptoRow.holds Try.pinned (OpenSpec.upto stackDeepSpec)

/-- 'obelisklaw20.StackAll', WHERE WHAT IT READS IS OF BULK AT MOST 1048576: true; the input reads as it did. -/
def stackAllUptoRow : OpenClaim := { program := "ytpkpfgiboodekaa", sum := "fb5cdeb29c73d62225bcb9d5fd70cf028b6fbb24de3d68c7242c102e0458760e", func := "obelisk/obelisklaw20.StackAll", spec := "stackAll", apart := false, narrowed := true }
def StackAllUptoSaid : Prop := stackAllUptoRow.holds Try.pinned (OpenSpec.upto stackAllSpec)

end Rows
end Go.Proofs.Ytpkpfgiboodekaa
