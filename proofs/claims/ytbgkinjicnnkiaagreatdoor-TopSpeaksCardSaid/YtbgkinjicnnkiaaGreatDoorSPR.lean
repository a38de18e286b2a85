/-
  A call, whatever is beneath: it prints once for each number.
-/
import Derived.Test.YtbgkinjicnnkiaaGreatDoorSNN
import Derived.Test.YtbgkinjicnnkiaaGreatDoorSPH
import Derived.Test.YtbgkinjicnnkiaaGreatDoorSPB
import Derived.Test.YtbgkinjicnnkiaaGreatDoorSPM
import Derived.Test.YtbgkinjicnnkiaaGreatDoorSPA
import Derived.Test.YtbgkinjicnnkiaaGreatDoorSPC
import Derived.Test.YtbgkinjicnnkiaaGreatDoorSPD
import Derived.Test.YtbgkinjicnnkiaaGreatDoorXN3
import Derived.Test.YtbgkinjicnnkiaaGreatDoorSPX
import Derived.Test.YtbgkinjicnnkiaaGreatDoorProg
import Derived.KernelRfl
set_option linter.unusedSectionVars false
set_option linter.unusedVariables false
set_option maxRecDepth 1000000
set_option maxHeartbeats 0
namespace Go.Proofs.YtbgkinjicnnkiaaGreatDoor.sp
open Go.X Go.RowKit Go.Proofs.YtbgkinjicnnkiaaGreatDoor
def Call (n : Nat) : Prop := n ≤ 40 → ∀ {B : Kp} {w0 : World} {μ : M} {rv : Nat → Value} {Q : Exit → Act → World → Prop} {j : Nat} {v r wd c0 : Int} {s d o : Nat} {a : Act} {w : World} (_ : Base B μ 30000) (_ : ∃ l, μ 14616 = some l) (_ : v = n) (_ : 0 ≤ r) (_ : r + 11 * n + 40 ≤ 2000) (_ : 0 ≤ wd) (_ : wd + 7 * n + 7 ≤ 2048) (_ : 0 ≤ c0) (_ : c0 + 11 * n + 40 ≤ 200000) (_ : s + n ≤ 9000) (_ : d + n ≤ 9000)
    (_ : SE v r wd c0 s d o rv B w0 μ a w)
    (_ : n = 0 → ∀ (r' c' : Int) (o' : Nat) (a' : Act) (w' : World), r' = r + 2 → c' = c0 + 2 → SR0 r' wd c' s d o' rv B w0 μ a' w' → Code.rounds Tryz.prog la Q j a' w')
    (_ : 1 ≤ n → ∀ (r' wd' c' : Int) (o' : Nat) (a' : Act) (w' : World), r' = r + (2 + 11 * n) → wd' = wd → c' = c0 + (2 + 11 * n) → o' = 3 * n → SR r' wd' c' s d o' rv B w0 μ a' w' → Code.rounds Tryz.prog la Q j a' w'), Code.rounds Tryz.prog la Q (j + (2 + 11 * n)) a w
theorem call0 : Call 0 := by
  intro _ B w0 μ rv Q j v r wd c0 s d o a w hb hM e1 e2 e3 e4 e5 e6 e7 e8 e9 s_ k0 k1
  exact goA (by omega) (by omega) (by omega) (by omega) (by omega) (by omega) (by omega) (by omega) (by omega) hb s_ (fun a' w' q => k0 rfl _ _ _ a' w' rfl rfl q)
theorem call1 (n : Nat) (ih : Call n) : Call (n + 1) := by
  intro hn B w0 μ rv Q j v r wd c0 s d o a w hb hM e1 e2 e3 e4 e5 e6 e7 e8 e9 s_ k0 k1
  clear k0
  rw [show j + (2 + 11 * (n + 1)) = ((j + 2 + (2 + 11 * n)) + 4) + 5 by omega]
  refine goB1 (by omega) (by omega) (by omega) (by omega) (by omega) (by omega) (by omega) (by omega) (by omega) (by omega) hb s_ (fun a0 w0_ q0 => ?_)
  refine goB2 (by omega) (by omega) (by omega) (by omega) (by omega) (by omega) (by omega) (by omega) (by omega) (by omega) hb q0 (fun a1 w1 q1 => ?_)
  obtain ⟨rv1, E1, hid, s1⟩ := hideE hb q1
  have hb1 : Base (B.also E1) μ 30000 := ⟨hb.names, hb.res⟩
  refine ih (by omega) hb1 hM (by omega) (by omega) (by omega) (by omega) (by omega) (by omega) (by omega) (by omega) (by omega) s1 ?_ ?_
  · intro h0 r' c' o' a2 w2 x1 x2 q2
    subst h0
    exact goC0 (by omega) (by omega) (by omega) (by omega) (by omega) (by omega) (by omega) (by omega) hb (unC0 hM hb hid q2) (fun a3 w3 q3 => k1 (by omega) _ _ _ _ a3 w3 (by omega) (by omega) (by omega) rfl q3)
  · intro h0 r' wd' c' o' a2 w2 x1 x2 x3 x4 q2
    exact goC (by omega) (by omega) (by omega) (by omega) (by omega) (by omega) (by omega) (by omega) (by omega) (by omega) hb (unC hM hb hid q2) (fun a3 w3 q3 => k1 (by omega) _ _ _ _ a3 w3 (by omega) (by omega) (by omega) (by omega) q3)
theorem calls_ok : ∀ n : Nat, Call n
  | 0 => call0
  | n + 1 => call1 n (calls_ok n)
end Go.Proofs.YtbgkinjicnnkiaaGreatDoor.sp
