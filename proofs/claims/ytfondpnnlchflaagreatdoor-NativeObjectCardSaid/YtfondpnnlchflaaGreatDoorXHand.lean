/-
  Calls that are known by a contract: what they give is a text, and memory is as it was.
-/
import Derived.Test.YtfondpnnlchflaaGreatDoorXCall
set_option linter.unusedVariables false
set_option linter.unusedSimpArgs false
set_option linter.unusedSectionVars false
namespace Go.X
open Go.RowKit
variable {P : Program}

theorem HR.grow [Tab] {B : Kp} {w0 w w' : World} {μ : M} {h : H} (r : HR B w0 μ h w) (hw : Below w.heap.size w w') : HR B w0 μ h w' where
  below := r.below.below hw
  fresh := r.fresh
  res := r.res
  blk x b hx := by
    obtain ⟨l, h1, h2, h3, h4⟩ := r.blk x b hx
    exact ⟨l, h1, h2, h3, h4.congr (hw.block _ h4.lt)⟩
  sep := r.sep

/-- texts alone are handed in, and one comes back -/
theorem callStr_ok [Tab] {f : FuncId} {args : List AV} {vs : List Value} {n c : Nat}
    (hc : c < 256 ^ n) (ha : ∀ (μ : M) (l : List Value), vrels μ args l → l = vs)
    (hk : ∀ (w : World), (∀ g o a, Tab.gv g o = some a → ∃ v, w.cell? ⟨g, o, none⟩ = some v ∧ vrel (fun _ => none) a v) → Calls P f vs.toArray w fun e w' => e = .returned (.string (strOf n c)) ∧ Below w.heap.size w w') (h : H) :
    CallOk P f args h (.str n c, h) := by
  intro B w0 μ w args' r hv
  have e : args' = vs.toArray := by
    cases args' with
    | mk l => rw [ha μ l hv]
  subst e
  refine (hk w fun g o a hg => (r.below.glbs hg).2).mono ?_
  rintro e w' ⟨rfl, hb⟩
  exact ⟨_, μ, rfl, Ext.refl _, by simp only [vrel]; exact ⟨hc, trivial⟩, r.grow hb⟩
end Go.X
