/-
  What the law TopOrderOfErrors gives.
-/
import Derived.Test.YtkckdnjocncnhaaGreatDoorEAT0
import Derived.Test.YtkckdnjocncnhaaGreatDoorEAT1
import Derived.Test.YtkckdnjocncnhaaGreatDoorEAT2
import Derived.Test.YtkckdnjocncnhaaGreatDoorEAT3
set_option linter.unusedVariables false
namespace Go.Proofs.YtkckdnjocncnhaaGreatDoor.ea
open Go.X Go.RowKit
theorem walk (a0 a1 : Bool) (w : World) : Calls Tryz.prog 5 #[.bool a0, .bool a1] w fun e w' => e = .returned (.bool true) ∧ Below w.heap.size w w' := by
  letI := Tab.empty
  have g : Gl (Kp.below w.heap.size) w := ⟨fun g o a h => (by cases h), fun i m a h => (by cases h)⟩
  have hv : ∀ a b : Bool, vrels (fun _ => none) [.bool a, .bool b] [Value.bool a, Value.bool b] := fun a b => vrels_cons (by simp only [vrel]) (vrels_cons (by simp only [vrel]) (by simp [vrels]))
  cases a0 <;> cases a1
  · exact top3_ok.yes rfl (hv _ _) w g
  · exact top2_ok.yes rfl (hv _ _) w g
  · exact top1_ok.yes rfl (hv _ _) w g
  · exact top0_ok.yes rfl (hv _ _) w g
end Go.Proofs.YtkckdnjocncnhaaGreatDoor.ea
