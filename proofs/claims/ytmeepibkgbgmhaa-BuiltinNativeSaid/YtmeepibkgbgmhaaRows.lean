/-
  No cell of these rows narrows 'for every input' (looked for: loops, veiled, ifaces, maps, wideKeys, modest, calm, conditions, laid).
  DERIVED. THE GIVEN ROWS OF THIS SEAT. 3 by the template 'for every input the law returns true; each argument reads behind the call as it read before'; 0 by the template 'total and deterministic' (their statements: YtmeepibkgbgmhaaTotals.lean).
  GIVEN WITH THE SEED: the statements are not yours to turn. If you find one false, say at which input.
  Laid BY PROGRAM, IN A SANDBOX (cutbox-rows.mjs): the forced cells as the released guide's own fill.sh prints them over the translation b41a8294a8ecdb70… (all of the seat's roots in one cut). By AI agents, Wed Nov 11 2026. No macro, syntax, notation, axiom, sorry.
-/
import Derived.Test.YtmeepibkgbgmhaaChecked
import GoSem.Claim
import GoSem.ClaimJoined
import GoSem.ClaimMapViews
import Derived.JoinedTies
import Derived.KernelRfl
namespace Go.Proofs.Ytmeepibkgbgmhaa
/- THE CELL 'sum', in the pinned program and in every row, IS THE sha256 OF THE DUMP (.gsa) THAT YtmeepibkgbgmhaaProg.lean LOADS. Nothing in Lean hashes anything: it is a label: what it is worth is what the hold of that sum in a sandbox is worth. -/
noncomputable def Try.pinned : Pinned := { name := "ytmeepibkgbgmhaa", sum := "b41a8294a8ecdb700e5f18bf8b18a15c47f8814f219b374af89066ad2689a2e4", checked := Try.checked }
namespace Rows
def none {H : Type} : Left H := { results := [], args := [] }

/-- 'obelisklaw10.BuiltinClass': WHATEVER THE INPUT: true; the input reads as it did. -/
def builtinClassSpec : ChangeSpec := { name := "builtinClass", fn := fun _ => fun
  | [d] => { results := [.lit (.bool true)], args := [d] }
  | _ => none }
def builtinClassRow : OpenClaim := { program := "ytmeepibkgbgmhaa", sum := "b41a8294a8ecdb700e5f18bf8b18a15c47f8814f219b374af89066ad2689a2e4", func := "obelisk/obelisklaw10.BuiltinClass", spec := "builtinClass", unfollowed := true, recurses := true, apart := false }
def BuiltinClassSaid : Prop := builtinClassRow.holds Try.pinned (OpenSpec.ofChange builtinClassSpec)

/-- ITS FALSE NEIGHBOUR: 'it returns false'. Refute it at one input. -/
def builtinClassWrong : ChangeSpec := { name := "builtinClass", fn := fun _ => fun
  | [d] => { results := [.lit (.bool false)], args := [d] }
  | _ => none }
def BuiltinClassWrongFalsely : Prop := builtinClassRow.holds Try.pinned (OpenSpec.ofChange builtinClassWrong)

/-- 'obelisklaw10.BuiltinNative': WHATEVER THE INPUT: true; the input reads as it did. -/
def builtinNativeSpec : ChangeSpec := { name := "builtinNative", fn := fun _ => fun
  | [d1, d2, d3] => { results := [.lit (.bool true)], args := [d1, d2, d3] }
  | _ => none }
def builtinNativeRow : OpenClaim := { program := "ytmeepibkgbgmhaa", sum := "b41a8294a8ecdb700e5f18bf8b18a15c47f8814f219b374af89066ad2689a2e4", func := "obelisk/obelisklaw10.BuiltinNative", spec := "builtinNative", unfollowed := true, recurses := true, apart := false }
def BuiltinNativeSaid : Prop := builtinNativeRow.holds Try.pinned (OpenSpec.ofChange builtinNativeSpec)

/-- ITS FALSE NEIGHBOUR: 'it returns false'. Refute it at one input. -/
def builtinNativeWrong : ChangeSpec := { name := "builtinNative", fn := fun _ => fun
  | [d1, d2, d3] => { results := [.lit (.bool false)], args := [d1, d2, d3] }
  | _ => none }
def BuiltinNativeWrongFalsely : Prop := builtinNativeRow.holds Try.pinned (OpenSpec.ofChange builtinNativeWrong)

/-- 'obelisklaw10.BuiltinAll': WHATEVER THE INPUT: true; the input reads as it did. -/
def builtinAllSpec : ChangeSpec := { name := "builtinAll", fn := fun _ => fun
  | [] => { results := [.lit (.bool true)], args := [] }
  | _ => none }
def builtinAllRow : OpenClaim := { program := "ytmeepibkgbgmhaa", sum := "b41a8294a8ecdb700e5f18bf8b18a15c47f8814f219b374af89066ad2689a2e4", func := "obelisk/obelisklaw10.BuiltinAll", spec := "builtinAll", unfollowed := true, recurses := true, apart := false }
def BuiltinAllSaid : Prop := builtinAllRow.holds Try.pinned (OpenSpec.ofChange builtinAllSpec)

/-- ITS FALSE NEIGHBOUR: 'it returns false'. Refute it at one input. -/
def builtinAllWrong : ChangeSpec := { name := "builtinAll", fn := fun _ => fun
  | [] => { results := [.lit (.bool false)], args := [] }
  | _ => none }
def BuiltinAllWrongFalsely : Prop := builtinAllRow.holds Try.pinned (OpenSpec.ofChange builtinAllWrong)

/- THE SECOND FORM. 'bulk': how many values and letters a reading holds, each counted each time it is reached (what is shared counts as often as it is met; a slice's spare places count too). A statement '..UptoSaid' is the law's where the arguments, and the package variables that the reading takes, are together of bulk at most 1048576: NARROWER than '..Said'. Prove '..Said' where nothing that the law and all that it calls make is longer than what came in: it says more and counts as full. Else prove '..UptoSaid'. A law counts once. -/
mutual
def uptoBulk {H : Type} : DataW H → Nat
  | .lit (.string bytes) => bytes.length + 1
  | .lit _ => 1
  | .nil => 1
  | .ptr d => uptoBulk d + 1
  | .slice elems spare => uptoBulkAll elems + uptoBulkAll spare + 1
  | .agg parts => uptoBulkAll parts + 1
  | .iface _ d => uptoBulk d + 1
  | .map entries => uptoBulkEntries entries + 1
  | .held _ => 1
def uptoBulkAll {H : Type} : List (DataW H) → Nat
  | [] => 0
  | d :: r => uptoBulk d + uptoBulkAll r
def uptoBulkEntries {H : Type} : List (Lit × DataW H) → Nat
  | [] => 0
  | x :: r => uptoBulkEntry x + uptoBulkEntries r
def uptoBulkEntry {H : Type} : Lit × DataW H → Nat
  | (.string bytes, d) => bytes.length + uptoBulk d + 1
  | (_, d) => uptoBulk d + 1
 end
def uptoSmall : (H : Type) → List (DataW H) → Bool := fun _ ds => decide (uptoBulkAll ds ≤ 1048576)
def OpenSpec.upto (s : _root_.Go.ChangeSpec) : _root_.Go.OpenSpec := { _root_.Go.OpenSpec.ofChange s with cond := some uptoSmall }

/-- 'obelisklaw10.BuiltinClass', WHERE WHAT IT READS IS OF BULK AT MOST 1048576: true; the input reads as it did. -/
def builtinClassUptoRow : OpenClaim := { program := "ytmeepibkgbgmhaa", sum := "b41a8294a8ecdb700e5f18bf8b18a15c47f8814f219b374af89066ad2689a2e4", func := "obelisk/obelisklaw10.BuiltinClass", spec := "builtinClass", unfollowed := true, recurses := true, apart := false, narrowed := true }
def BuiltinClassUptoSaid : Prop := builtinClassUptoRow.holds Try.pinned (OpenSpec.upto builtinClassSpec)

/-- 'obelisklaw10.BuiltinNative', WHERE WHAT IT READS IS OF BULK AT MOST 1048576: true; the input reads as it did. -/
def builtinNativeUptoRow : OpenClaim := { program := "ytmeepibkgbgmhaa", sum := "b41a8294a8ecdb700e5f18bf8b18a15c47f8814f219b374af89066ad2689a2e4", func := "obelisk/obelisklaw10.BuiltinNative", spec := "builtinNative", unfollowed := true, recurses := true, apart := false, narrowed := true }
def BuiltinNativeUptoSaid : Prop := builtinNativeUptoRow.holds Try.pinned (OpenSpec.upto builtinNativeSpec)

/-- 'obelisklaw10.BuiltinAll', WHERE WHAT IT READS IS OF BULK AT MOST 1048576: true; the input reads as it did. -/
def builtinAllUptoRow : OpenClaim := { program := "ytmeepibkgbgmhaa", sum := "b41a8294a8ecdb700e5f18bf8b18a15c47f8814f219b374af89066ad2689a2e4", func := "obelisk/obelisklaw10.BuiltinAll", spec := "builtinAll", unfollowed := true, recurses := true, apart := false, narrowed := true }
def BuiltinAllUptoSaid : Prop := builtinAllUptoRow.holds Try.pinned (OpenSpec.upto builtinAllSpec)

end Rows
end Go.Proofs.Ytmeepibkgbgmhaa
