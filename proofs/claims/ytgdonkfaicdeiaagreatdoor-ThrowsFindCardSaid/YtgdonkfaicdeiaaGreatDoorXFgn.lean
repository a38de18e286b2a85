/-
  Tables that know of slices that came in.
-/
import Derived.Test.YtgdonkfaicdeiaaGreatDoorXBits
import Derived.Test.YtgdonkfaicdeiaaGreatDoorXCall
set_option linter.unusedVariables false
set_option linter.unusedSimpArgs false
set_option linter.unusedSectionVars false
namespace Go.X
open Go.RowKit

/-- slices that came in: where each lies, how many cells it may take, what its cells are -/
structure Fgn where
  fb : Nat → Nat × Nat
  fcap : Nat → Nat
  fv : Nat → Nat → Option AV
abbrev FlOk (iv : Nat → IntKind × Int) (F : Fgn) (r : VL) : Prop := isLen (iv r.k) ∧ ∀ m b, r.l[m]? = some b → ∃ a, F.fv r.i ((iv r.k).2.toNat * r.z + r.f + m) = some a ∧ sameAV iv a b
variable {iv : Nat → IntKind × Int} {vv : Nat → Nat → Option AV} {vk : Nat → Nat}
abbrev VRows.ftab (R : VRows iv vv vk) (F : Fgn) (fl : List VL) (flok : ∀ r ∈ fl, FlOk iv F r) : Tab :=
  { R.tab with fb := F.fb, fcap := F.fcap, fv := F.fv, fl := fl, flok := flok }
theorem VRows.fsame (R R' : VRows iv vv vk) (F : Fgn) (fl fl' : List VL) (h : ∀ r ∈ fl, FlOk iv F r) (h' : ∀ r ∈ fl', FlOk iv F r) : SameTab (R.ftab F fl h) (R'.ftab F fl' h') := ⟨rfl, rfl, rfl, rfl, rfl, rfl, rfl, rfl⟩
/-- cells of numbers -/
def intF (k : IntKind) (A : Nat) (e : Nat → Int) : Nat → Option AV := numV k A e
theorem flN {F : Fgn} {r : VL} {K : IntKind} {k A : Nat} {e : Nat → Int} (hk : iv r.k = (.i64, (k : Int))) (h0 : F.fv r.i = numV K A e) (ho : k * r.z + r.f + r.l.length ≤ A) (hb : ∀ m b, r.l[m]? = some b → denI iv b = some (K, e (k * r.z + r.f + m))) : FlOk iv F r := by
  refine ⟨by rw [hk]; exact ⟨rfl, by simp⟩, fun m x hx => ?_⟩
  have hm := (List.getElem?_eq_some_iff.1 hx).1
  have e1 : (iv r.k).2.toNat = k := by rw [hk]; simp
  rw [e1, h0]
  exact ⟨_, numV_lt (by omega), .inr ⟨_, rfl, hb m x hx⟩⟩
theorem glF {T T' : Tab} {B : Kp} {w0 : World} (h : T'.gv = fun _ _ => none) (h1 : T.fb = T'.fb) (h2 : T.fv = T'.fv) (h3 : ∀ i m a, T'.fv i m = some a → ∃ k n, a = .int k n) : @Gl T B w0 → @Gl T' B w0 := fun g =>
  ⟨fun g o a hg => (by rw [h] at hg; cases hg), fun i m a hg => (by
    obtain ⟨k, n, rfl⟩ := h3 i m a hg
    obtain ⟨h4, v, h5, h6⟩ := g.2 i m _ (by rw [h2]; exact hg)
    rw [← h1]
    exact ⟨h4, v, h5, by simp only [vrel] at h6 ⊢; exact h6⟩)⟩
end Go.X
