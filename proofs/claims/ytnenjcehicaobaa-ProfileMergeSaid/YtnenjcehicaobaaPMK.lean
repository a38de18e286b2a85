/-
  The law ProfileMerge: the walk.
-/
import Derived.Test.YtnenjcehicaobaaPMJ
import Derived.OpenShut
set_option linter.unusedVariables false
set_option linter.unusedSimpArgs false
set_option linter.unusedSectionVars false
set_option maxRecDepth 1000000
set_option maxHeartbeats 0
namespace Go.Proofs.Ytnenjcehicaobaa.pf
open Go.X Go.RowKit Go.Proofs Go.WideShapes
theorem anyM {w : World} {n : Int} {v : Value} {H : Type} {enc : TypeId × Value → H} {base : Nat} {spare : Nat → Bool} {held : Bool} {d : DataW H} {ps : List MemPlace} (hval : Value.okWide Try.prog w .any 0 34 v) (h : DataW.Trod enc Try.prog w base spare held 34 v d ps) : EndM w v n := by
  obtain ⟨a0, len0, cap0, rfl⟩ := okWide_slice Try.underlying34 hval
  obtain ⟨fuel, hf⟩ := h
  rcases Deep.open_slice1 Try.underlying34 (by kernel_rfl) hf with ⟨h0, _⟩ | ⟨a, len, cap, m, n', V, D, Pl, h0, _, hcap, hmx, hm, _, hx⟩
  · have h1 : Value.slice a0 len0 cap0 = .slice none 0 0 := by simpa [Value.cells] using h0
    rw [h1]
    exact noRows (.inl rfl) (fun T => by simp only [vrel])
  · have h1 : Value.slice a0 len0 cap0 = .slice (some a) len cap := by simpa [Value.cells] using h0
    rw [h1] at hval ⊢
    have hs : a.spot = none := by
      simp only [Value.okWide, Try.underlying34, Cell.okWide, Cell.ok] at hval
      exact hval.2.2.2.1
    obtain ⟨b, o, sp⟩ := a
    simp only at hs
    subst hs
    rcases Nat.eq_zero_or_pos len with e | e
    · subst e
      exact noRows (.inr rfl) (fun T => by simp only [vrel]; exact ⟨_, _, rfl⟩)
    · have hmm : len ≤ m := by rw [hm]; split <;> omega
      obtain ⟨f, f1, f2⟩ := rowsOf (w := w) (n := len) (V := V) fun j hj => row_of (hx j (by omega)).2
      exact rows_in e hcap (fun j hj => by rw [← WideShapes.add_plain]; exact (hx j (by omega)).1) f1 f2
end Go.Proofs.Ytnenjcehicaobaa.pf
