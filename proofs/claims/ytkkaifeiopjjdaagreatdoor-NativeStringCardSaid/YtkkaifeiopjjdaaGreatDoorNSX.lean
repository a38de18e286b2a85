/-
  The law NativeString: what a slice of chars that came in is.
-/
import Derived.Test.YtkkaifeiopjjdaaGreatDoorNSW
import Derived.ChangeSlices
import Derived.ChangeShapes
import Derived.Carry
import Derived.LaidSub
import Derived.Lib.LaidTab
set_option linter.unusedVariables false
set_option linter.unusedSimpArgs false
set_option linter.unusedSectionVars false
set_option maxRecDepth 1000000
set_option maxHeartbeats 0
namespace Go.Proofs.YtkkaifeiopjjdaaGreatDoor.ns
open Go.X Go.RowKit Go.Proofs Go.ChangeShapes Go.WideShapes
theorem arg_any {w : World} {v : Value} {H : Type} {enc : TypeId × Value → H} {base : Nat} {spare : Nat → Bool} {held : Bool} {d : DataW H} {ps : List MemPlace} (hval : Value.okWide Tryz.prog w .any 0 22 v) (h : DataW.Trod enc Tryz.prog w base spare held 22 v d ps) :
    ∃ k n b o c A, k < 3 ∧ Kd w v k n b o c A := by
  obtain ⟨a0, len0, cap0, rfl⟩ := okWide_slice Tryz.underlying22 hval
  obtain ⟨fuel, hf⟩ := h
  rcases open_ints Tryz.underlying22 Tryz.underlying34 (by kernel_rfl) hf with ⟨h0, _⟩ | ⟨a, len, cap, zs, h0, _, hcap, hm, hz, _, hc, hw⟩
  · have h1 : Value.slice a0 len0 cap0 = .slice none 0 0 := by simpa [Value.cells] using h0
    rw [h1]
    exact ⟨0, 0, 0, 0, 0, fun _ => 0, by decide, ⟨by decide, fun _ => ⟨Int.le_refl 0, by show (0 : Int) < 65536; decide⟩⟩, rfl, rfl⟩
  · have h1 : Value.slice a0 len0 cap0 = .slice (some a) len cap := by simpa [Value.cells] using h0
    rw [h1] at hval ⊢
    have hs : a.spot = none := by
      simp only [Value.okWide, Tryz.underlying22, Cell.okWide, Cell.ok] at hval
      exact hval.2.2.2.1
    obtain ⟨b, o, sp⟩ := a
    simp only at hs
    subst hs
    have hA : len ≤ zs.length := by rw [hz]; split <;> omega
    have hr : ∀ m, 0 ≤ zs.getD m 0 ∧ zs.getD m 0 < 65536 := fun m => by
      rw [List.getD_eq_getElem?_getD]
      cases e : zs[m]? with
      | none => exact ⟨by decide, by decide⟩
      | some z =>
        have hz' := hw z (List.mem_of_getElem? e)
        simp only [Lit.wf, Bool.and_eq_true, decide_eq_true_eq] at hz'
        obtain ⟨q1, q2⟩ := hz'
        have q3 : (IntKind.u16.min : Int) = 0 := by decide
        have q4 : (IntKind.u16.max : Int) = 65535 := by decide
        show 0 ≤ z ∧ z < 65536
        omega
    have hl : len < 9223372036854775808 := by unfold maxLen at hm; omega
    rcases Nat.eq_zero_or_pos len with e | e
    · subst e
      exact ⟨1, 0, b, o, cap, fun m => zs.getD m 0, by decide, ⟨by decide, hr⟩, rfl, rfl⟩
    · exact ⟨2, len, b, o, cap, fun m => zs.getD m 0, by decide, ⟨hl, hr⟩, rfl, hcap, e, fun m hm => by rw [← WideShapes.add_plain]; exact hc m (by have := cutN_n len; omega)⟩
/-- the law, for whatever the call is handed -/
theorem any {w : World} {ix : Int} {v u : Value} {H : Type} {enc : TypeId × Value → H} {base : Nat} {spare : Nat → Bool} {held : Bool} {d : DataW H} {ps : List MemPlace} (hval : Value.okWide Tryz.prog w .any 0 22 v) (h : DataW.Trod enc Tryz.prog w base spare held 22 v d ps)
    {base' : Nat} {spare' : Nat → Bool} {held' : Bool} {d' : DataW H} {ps' : List MemPlace} (hval' : Value.okWide Tryz.prog w .any 0 22 u) (h' : DataW.Trod enc Tryz.prog w base' spare' held' 22 u d' ps') : Ends w v u ix := by
  obtain ⟨k, n, b, o, c, A, g1, g2⟩ := arg_any hval h
  obtain ⟨k', n', b', o', c', A', g3, g4⟩ := arg_any hval' h'
  match k, k', g1, g3, g2, g4 with
  | 0, 0, _, _, x, y => exact gonn x y
  | 0, 1, _, _, x, y => exact gone x y
  | 0, 2, _, _, x, y => exact gonp x y
  | 1, 0, _, _, x, y => exact goen x y
  | 1, 1, _, _, x, y => exact goee x y
  | 1, 2, _, _, x, y => exact goep x y
  | 2, 0, _, _, x, y => exact gopn x y
  | 2, 1, _, _, x, y => exact gope x y
  | 2, 2, _, _, x, y => exact gopp x y
  | k + 3, _, h, _, _, _ => omega
  | _, k + 3, _, h, _, _ => omega
end Go.Proofs.YtkkaifeiopjjdaaGreatDoor.ns
