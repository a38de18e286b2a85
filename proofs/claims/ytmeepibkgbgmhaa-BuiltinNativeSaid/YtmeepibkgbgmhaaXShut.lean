/-
  From a summary to a call's contract; texts that are one of some constants, or none of them.
-/
import Derived.Test.YtmeepibkgbgmhaaXSum
set_option linter.unusedSimpArgs false
set_option linter.unusedVariables false
set_option linter.unusedSectionVars false
namespace Go.X
open Go.RowKit
variable [Tab] {P : Program}

/-- a summary that answers true: what the call of the model gives -/
theorem SumOk.yes {f : FuncId} {args : List AV} {s : Sum} (o : SumOk P f args s) (hv : s.v = .bool true) {args' : Array Value} (ha : vrels (fun _ => none) args args'.toList) (w : World) :
    Calls P f args' w fun e w' => e = .returned (.bool true) ∧ Below w.heap.size w w' := by
  obtain ⟨hs, h1, _, _⟩ := o.run
  refine (h1.closed ha w).mono ?_
  rintro e w' ⟨v', μ', rfl, hr, r⟩
  have hr' : vrel μ' s.v v' := hr
  rw [hv] at hr'
  simp only [vrel] at hr'
  exact ⟨by rw [hr'], r.below.toBelow⟩

theorem CallOk.yes {f : FuncId} {args : List AV} {q : H} (o : CallOk P f args H.empty (.bool true, q)) {args' : Array Value} (ha : vrels (fun _ => none) args args'.toList) (w : World) :
    Calls P f args' w fun e w' => e = .returned (.bool true) ∧ Below w.heap.size w w' := by
  refine (o.closed ha w).mono ?_
  rintro e w' ⟨v', μ', rfl, hr, r⟩
  have hr' : vrel μ' (.bool true) v' := hr
  simp only [vrel] at hr'
  exact ⟨by rw [hr'], r.below.toBelow⟩

theorem CallOk.of_okTrue {K : Hand} (hm : P.follows .mixedOrders = true) (hK : HandOk P K) {n : Nat} {f : FuncId} {args : List AV} (e : okTrue (call P K n f args H.empty) = true) :
    ∃ q, CallOk P f args H.empty (.bool true, q) := by
  obtain ⟨q, hq⟩ := okTrue_some e
  exact ⟨q, call_sound hm hK hq⟩

/-- a table without texts -/
abbrev Tab.empty : Tab := ⟨fun _ => default, fun _ => [], fun _ p h => by simp at h⟩

/-- a text is one of some constants, or differs from each -/
theorem pick (l : List (Nat × Nat)) (s : ByteArray) : (∃ p ∈ l, s = strOf p.1 p.2) ∨ ∀ p ∈ l, s ≠ strOf p.1 p.2 := by
  rcases Classical.em (∃ p ∈ l, s = strOf p.1 p.2) with h | h
  · exact .inl h
  · exact .inr fun p hp e => h ⟨p, hp, e⟩
end Go.X
