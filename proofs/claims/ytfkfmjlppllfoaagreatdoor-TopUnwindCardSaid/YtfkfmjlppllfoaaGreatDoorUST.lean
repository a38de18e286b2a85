/-
  The places of objects of three words, one behind the other.
-/
import Derived.Test.YtfkfmjlppllfoaaGreatDoorUBM
set_option linter.unusedVariables false
namespace Go.Proofs.YtfkfmjlppllfoaaGreatDoor.bs
open Go.X Go.RowKit
abbrev stF (m : Nat) : Int := ((3 * m - 1 : Nat) : Int)
def stG : Nat → Option AV := fun m => some (.int .i64 (stF m))
theorem stG_plain : ∀ m a, stG m = some a → vplain a = true := fun m a h => by cases h; rfl
theorem stG_int : ∀ m a, stG m = some a → ∃ k n, a = AV.int k n := fun m a h => by cases h; exact ⟨_, _, rfl⟩
theorem stF_inc {n : Nat} : ∀ m k, m < k → k < n → stF m < stF k := fun m k h _ => by unfold stF; omega
theorem stHs {T : Tab} {i S : Nat} {L : List AV} (hv : T.vv i = pvg stG S L) (hL : ∀ q x, L[q]? = some x → ∃ k, x = .oi k ∧ T.iv k = (.i64, stF (S + q))) :
    ∀ m, m < S + L.length → ∃ a, T.vv i m = some a ∧ ∀ μ v, @vrel T μ a v → v = .int .i64 (stF m) := by
  intro m hm
  rw [hv]
  by_cases c : m < S
  · rw [pvg_lo c]
    exact ⟨_, rfl, fun μ v h => by simp only [vrel] at h; exact h⟩
  · obtain ⟨q, rfl⟩ : ∃ q, m = S + q := ⟨m - S, by omega⟩
    rw [pvg_hi]
    have hq : q < L.length := by omega
    obtain ⟨k, e1, e2⟩ := hL q _ (List.getElem?_eq_getElem hq)
    refine ⟨.oi k, by rw [List.getElem?_eq_getElem hq, e1], fun μ v h => ?_⟩
    simp only [vrel] at h
    rw [h, e2]
theorem st1 {T : Tab} {S k : Nat} (h : T.iv k = (.i64, stF S)) : ∀ q x, ([.oi k] : List AV)[q]? = some x → ∃ k', x = .oi k' ∧ T.iv k' = (.i64, stF (S + q)) := fun q x e => by
  match q with
  | 0 => simp at e; subst e; exact ⟨k, rfl, h⟩
  | q + 1 => simp at e
theorem st2 {T : Tab} {S k k2 : Nat} (h : T.iv k = (.i64, stF S)) (h2 : T.iv k2 = (.i64, stF (S + 1))) : ∀ q x, ([.oi k, .oi k2] : List AV)[q]? = some x → ∃ k', x = .oi k' ∧ T.iv k' = (.i64, stF (S + q)) := fun q x e => by
  match q with
  | 0 => simp at e; subst e; exact ⟨k, rfl, h⟩
  | 1 => simp at e; subst e; exact ⟨k2, rfl, h2⟩
  | q + 2 => simp at e
/-- the rule's part grows by one -/
theorem stGrow {T T' : Tab} {S k : Nat} {L : List AV} (h : T.iv k = (.i64, stF S)) : ∀ m a, m < 1 → stG (S + m) = some a → ∃ x, (.oi k :: L)[m]? = some x ∧ ∀ μ v, @vrel T μ x v → @vrel T' μ a v := fun m a hm e => by
  obtain rfl : m = 0 := by omega
  cases e
  refine ⟨.oi k, rfl, fun μ v hv => ?_⟩
  simp only [vrel] at hv ⊢
  rw [hv, h]; rfl
theorem noGrow {T T' : Tab} {S q : Nat} {L : List AV} : ∀ m a, m < q → noG (S + m) = some a → ∃ x, L[m]? = some x ∧ ∀ μ v, @vrel T μ x v → @vrel T' μ a v := fun m a hm e => by cases e
theorem noZero {T T' : Tab} {g : Nat → Option AV} {S : Nat} {L : List AV} : ∀ m a, m < 0 → g (S + m) = some a → ∃ x, L[m]? = some x ∧ ∀ μ v, @vrel T μ x v → @vrel T' μ a v := fun m a hm e => by omega
theorem stStart {T T' : Tab} {L : List AV} : ∀ m a, m < 3 → stG m = some a → ∃ x, (.int .i64 0 :: .int .i64 2 :: .int .i64 5 :: L)[m]? = some x ∧ ∀ μ v, @vrel T μ x v → @vrel T' μ a v := fun m a hm e => by
  cases e
  match m, hm with
  | 0, _ => exact ⟨_, rfl, fun μ v hv => by simp only [vrel] at hv ⊢; exact hv⟩
  | 1, _ => exact ⟨_, rfl, fun μ v hv => by simp only [vrel] at hv ⊢; exact hv⟩
  | 2, _ => exact ⟨_, rfl, fun μ v hv => by simp only [vrel] at hv ⊢; exact hv⟩
theorem noStart {T T' : Tab} {L : List AV} {n : Nat} : ∀ m a, m < n → noG m = some a → ∃ x, L[m]? = some x ∧ ∀ μ v, @vrel T μ x v → @vrel T' μ a v := fun m a hm e => by cases e
end Go.Proofs.YtfkfmjlppllfoaaGreatDoor.bs
