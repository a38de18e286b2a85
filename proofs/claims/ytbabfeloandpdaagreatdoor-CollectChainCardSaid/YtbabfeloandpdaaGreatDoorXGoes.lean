/-
  No function of a program starts a goroutine: nor does a call.
-/
import GoSem.ClaimSeven
namespace Go.X
theorem goesNone {P : Program} {c : OpenClaim} (h : P.funcs.toList.any Func.goes = false) (hs : c.start = .entering) : false = c.goesBy P := by
  have h' : P.funcs.any Func.goes = false := by rw [← Array.any_toList]; exact h
  have key : ∀ f, P.goes f = false := fun f => by
    unfold Program.goes
    rw [h', Bool.and_false, Bool.or_false, List.any_eq_false]
    intro g _
    cases hg : P.funcs[g]? with
    | none => simp
    | some fn =>
      have hm : fn ∈ P.funcs.toList := by
        rw [← Array.getElem?_toList] at hg
        exact List.mem_of_getElem? hg
      have := List.any_eq_false.1 h fn hm
      simpa using this
  unfold OpenClaim.goesBy Program.goesAt Program.goesFrom
  rw [hs]
  cases P.funcNamed c.func with
  | none => rfl
  | some f => show false = (P.goes f || false); rw [key f]; rfl
end Go.X
