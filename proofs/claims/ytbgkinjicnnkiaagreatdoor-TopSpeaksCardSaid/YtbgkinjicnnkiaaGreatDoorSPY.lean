/-
  The whole run.
-/
import Derived.Test.YtbgkinjicnnkiaaGreatDoorSNN
import Derived.Test.YtbgkinjicnnkiaaGreatDoorSPU
import Derived.Test.YtbgkinjicnnkiaaGreatDoorSPV
import Derived.Test.YtbgkinjicnnkiaaGreatDoorXN3
import Derived.Test.YtbgkinjicnnkiaaGreatDoorSPX
import Derived.Test.YtbgkinjicnnkiaaGreatDoorProg
import Derived.KernelRfl
set_option linter.unusedSectionVars false
set_option linter.unusedVariables false
set_option maxRecDepth 1000000
set_option maxHeartbeats 0
namespace Go.Proofs.YtbgkinjicnnkiaaGreatDoor.sp
open Go.X Go.RowKit Go.Proofs.YtbgkinjicnnkiaaGreatDoor
section
variable {B : Kp} {w0 w w1 : World} {μ μ0 : M} {a : Act}
theorem runS {rv : Nat → Value} {Q : Exit → Act → World → Prop} {j : Nat} {v : Int} {a : Act} {w : World} (n : Nat) (hn : 1 ≤ n) (hn2 : n ≤ 39) (hb : Base B μ 30000) (hM : ∃ l, μ 14616 = some l) (hM2 : ∃ l, μ 16430 = some l) (hv : v = n)
    (s_ : SB v 0 0 0 rv B w0 μ a w)
    (kD : ∀ (r' wd' c0' : Int) (k : Nat) (a' : Act) (w' : World), r' = 13 + 11 * n → wd' = 15 → c0' = 3 + 11 * n → k = 3 * n → SDc v r' wd' c0' 0 0 k n k rv B w0 μ a' w' → Code.rounds Tryz.prog la Q j a' w') :
    Code.rounds Tryz.prog la Q (j + (2 + 11 * n) + 11) a w := by
  refine goS (by omega) (by omega) hb s_ (fun a1 w1 q1 => ?_)
  obtain ⟨rv1, E1, hid, s1⟩ := hideS hb q1
  have hb1 : Base (B.also E1) μ 30000 := ⟨hb.names, hb.res⟩
  refine calls_ok n (by omega) hb1 hM hv (by omega) (by omega) (by omega) (by omega) (by omega) (by omega) (by omega) (by omega) s1 (fun h => absurd h (by omega)) ?_
  intro _ r' wd' c' o' a' w' x1 x2 x3 x4 q
  exact kD r' wd' c' o' a' w' (by omega) (by omega) (by omega) x4 (toDc n x4 (by omega) (unS hM2 hb hid q))
end
end Go.Proofs.YtbgkinjicnnkiaaGreatDoor.sp
