/-
  The law ProfileTop: the walk.
-/
import Derived.Test.YtnenjcehicaobaaPGO
import Derived.OpenShut
set_option linter.unusedVariables false
set_option linter.unusedSimpArgs false
set_option linter.unusedSectionVars false
set_option maxRecDepth 1000000
set_option maxHeartbeats 0
namespace Go.Proofs.Ytnenjcehicaobaa.pf
open Go.X Go.RowKit Go.Proofs Go.WideShapes
theorem any {w : World} {n : Int} {v u : Value} {H : Type} {enc : TypeId × Value → H} {base : Nat} {spare spare' : Nat → Bool} {held held' : Bool} {d d' : DataW H} {ps ps' : List MemPlace} (hv : Value.okWide Try.prog w .any 0 22 v) (h : DataW.Trod enc Try.prog w base spare held 22 v d ps)
    (hu : Value.okWide Try.prog w .any 0 23 u) (h' : DataW.Trod enc Try.prog w base spare' held' 23 u d' ps') : Ends w v u n := by
  obtain ⟨a0, len0, cap0, rfl⟩ := okWide_slice Try.underlying22 hv
  obtain ⟨a1, len1, cap1, rfl⟩ := okWide_slice Try.underlying23 hu
  obtain ⟨fuel, hf⟩ := h
  obtain ⟨fuel', hf'⟩ := h'
  exact walkAny hf hf'
end Go.Proofs.Ytnenjcehicaobaa.pf
