/-
  From a body's steps, state by state, to what a call gives; calls that are known at one memory.
-/
import Derived.Test.YtgdonkfaicdeiaaGreatDoorXRow
set_option linter.unusedVariables false
set_option linter.unusedSimpArgs false
set_option linter.unusedSectionVars false
namespace Go.X
open Go.RowKit

variable {P : Program} {B : Kp} {w0 : World} {nt : Nat} {a : Act} {w : World}

/-- a call is over: what it gives, and the memory -/
def Done [Tab] (P : Program) (fn : Func) (B : Kp) (w0 : World) (μ : M) (v : AV) (h' : H) (e : Exit) (a : Act) (w : World) : Prop :=
  (e = .normal ∨ e = .ret) ∧ a.defers = [] ∧ ∃ v' μ', (results fn a.tmps).run P w = .ok v' w ∧ Ext μ μ' ∧ vrel μ' v v' ∧ HR B w0 μ' h' w

theorem St.done [τ : Tab] {fn : Func} {fr : Fr} {h : H} {v : AV} {μ : M} {e : Ex} (he : e = .normal ∨ e = .ret) (hl : results? P fn fr h = some v) (s : St τ B w0 μ fn.ntmps fr h a w) : Done P fn B w0 μ v h e.to a w := by
  obtain ⟨μ', hx, f, r⟩ := s
  obtain ⟨v', k1, k2⟩ := results_sound (P := P) f r hl
  refine ⟨?_, f.2.1, v', μ', k1, hx, k2, r⟩
  rcases he with rfl | rfl
  · exact .inl rfl
  · exact .inr rfl

theorem Base.of [Tab] {μ : M} {h : H} (r : HR B w0 μ h w) : Base B μ h.next :=
  ⟨fun x l hl => by
    rcases Nat.lt_or_ge x h.next with h1 | h1
    · exact h1
    · have := (r.fresh x h1).2
      rw [hl] at this; simp at this, fun x hx => (r.res x hx).1⟩

theorem callOk_of [τ : Tab] {f : FuncId} {fn : Func} {body : Code} {args : List AV} {h h' : H} {v : AV} (hf : P.funcs[f]? = some fn) (hb : fn.body = some body) (hl : args.length ≤ fn.ntmps) (hlim : args.length < limit)
    (H : ∀ B w0 μ a w, Base B μ h.next → St τ B w0 μ fn.ntmps (T.ofList 0 .leaf args) h a w → body.wp P (Done P fn B w0 μ v h') a w) : CallOk P f args h (v, h') := by
  intro B w0 μ w args' r ha
  have hlen : args'.size = args.length := by rw [← Array.length_toList, vrels_length ha]
  refine calls_of_wp hf hb (wp_mono (H B w0 μ _ w (Base.of r) ⟨μ, Ext.refl _, ⟨?_, rfl, fun t v ht => ?_⟩, r⟩) ?_)
  · simp; omega
  · rw [T.get_ofList _ _ _ _ (by unfold limit at hlim; omega)] at ht
    split at ht
    · simp only [Nat.sub_zero] at ht
      obtain ⟨v', g1, g2⟩ := vrels_get ha ht
      refine ⟨v', ?_, g2⟩
      rw [Array.getElem?_append_left (by omega), ← Array.getElem?_toList]
      exact g1
    · simp at ht
  · rintro e' a' w' ⟨he, hd, v', μ', h1, h2, h3, h4⟩
    rcases he with rfl | rfl
    · exact ⟨hd, v', h1, v', μ', rfl, h2, h3, h4⟩
    · exact ⟨hd, v', h1, v', μ', rfl, h2, h3, h4⟩

/-- a call that is known at one memory -/
noncomputable def heq (h h' : H) : Bool := Nat.beq h.next h'.next && h.t.same beq? h'.t
theorem heq_eq [Tab] {h h' : H} (e : heq h h' = true) : h = h' := by
  unfold heq at e
  simp only [Bool.and_eq_true] at e
  cases h; cases h'
  simp only [nbeq_iff] at e
  rw [e.1, T.same_eq (fun _ _ => beq_eq) _ _ e.2]
noncomputable def handAt (g : FuncId) (xs : List AV) (k : H) (p : AV × H) : Hand := fun f args h =>
  Bool.rec none (Bool.rec none (Bool.rec none (some p) (heq k h)) (veqs xs args)) (Nat.beq g f)
theorem handAt_ok [Tab] {g : FuncId} {xs : List AV} {k : H} {p : AV × H} (hk : CallOk P g xs k p) : HandOk P (handAt g xs k p) := by
  intro f args h q e
  have e' : (Bool.rec none (Bool.rec none (Bool.rec none (some p) (heq k h)) (veqs xs args)) (Nat.beq g f) : Option (AV × H)) = some q := e
  cases h1 : Nat.beq g f with
  | false => rw [h1] at e'; cases e'
  | true =>
  cases h2 : veqs xs args with
  | false => rw [h1, h2] at e'; cases e'
  | true =>
  cases h3 : heq k h with
  | false => rw [h1, h2, h3] at e'; cases e'
  | true =>
    rw [h1, h2, h3] at e'
    cases e'
    rw [← nbeq_iff.1 h1, ← veqs_eq h2, ← heq_eq h3]
    exact hk
end Go.X
