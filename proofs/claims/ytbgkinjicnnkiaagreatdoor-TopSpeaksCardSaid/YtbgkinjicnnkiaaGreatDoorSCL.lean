/-
  What the law TopSpeaks gives.
-/
import Derived.Test.YtbgkinjicnnkiaaGreatDoorSNN
import Derived.Test.YtbgkinjicnnkiaaGreatDoorSCQ0
import Derived.Test.YtbgkinjicnnkiaaGreatDoorSCQ1
import Derived.Test.YtbgkinjicnnkiaaGreatDoorSCQ2
import Derived.Test.YtbgkinjicnnkiaaGreatDoorSCQ3
set_option linter.unusedSectionVars false
set_option linter.unusedVariables false
set_option maxRecDepth 1000000
set_option maxHeartbeats 0
namespace Go.Proofs.YtbgkinjicnnkiaaGreatDoor.sc
open Go.X Go.RowKit Go.Proofs.YtbgkinjicnnkiaaGreatDoor.sq Go.Proofs.YtbgkinjicnnkiaaGreatDoor
noncomputable def fullL : Code := (Tryz.f5.body).getD .skip
theorem bodyL_eq : Tryz.f5.body = some fullL := by kernel_rfl
noncomputable abbrev NL : Nat := Tryz.f5.ntmps
noncomputable abbrev fsA : List (Nat × AV) := [(0, .oi 0), (3, .bool true)]
theorem x40 {x : Int} {k : Nat} (h : x = k) (h1 : 1 ≤ k) (h2 : k < 40) : 1 ≤ x ∧ x < 40 := ⟨by omega, by omega⟩
/-- the law from there on -/
def Back (k : Nat) : Prop := ∀ {q : Int} (g1 : 1 ≤ (k : Int)) (g2 : (k : Int) < 40) {w0 : World} {a : Act} {w : World}, q = 16 + 11 * k → St ((RL (x := k) (q := q) (s := 0) (d := 0) (o := 0) g1 g2).tab) (Kp.below w0.heap.size) w0 (fun _ => none) NL (frOf fsA) (hOf 6868 []) a w → (restn 4 fullL).wp Tryz.prog (Yes Tryz.prog Tryz.f5 (Kp.below w0.heap.size) w0) a w
end Go.Proofs.YtbgkinjicnnkiaaGreatDoor.sc
