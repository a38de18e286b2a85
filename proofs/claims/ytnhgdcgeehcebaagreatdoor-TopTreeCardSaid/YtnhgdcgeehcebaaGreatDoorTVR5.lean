/-
  The law TopTree at one number.
-/
import Derived.Test.YtnhgdcgeehcebaaGreatDoorTVQ1
set_option linter.unusedSectionVars false
set_option linter.unusedVariables false
set_option maxRecDepth 1000000
set_option maxHeartbeats 0
namespace Go.Proofs.YtnhgdcgeehcebaaGreatDoor.tv
open Go.X Go.RowKit Go.Proofs.YtnhgdcgeehcebaaGreatDoor.tq Go.Proofs.YtnhgdcgeehcebaaGreatDoor
theorem run5:runTrue (RL5).tab Tryz.prog ((inHand (CRo (bK 31))).or K_top0) 5000 Tryz.f3 (restn 4 fullL) (frOf fsA) (hOf 6868 [])=true:=(by as_aux_lemma=>kernel_rfl)
theorem back5 {w0:World} {a:Act} {w:World} (s:St (TTx 5 1471 31) (Kp.below w0.heap.size) w0 (fun _=>none) NL (frOf fsA) (hOf 6868 []) a w):(restn 4 fullL).wp Tryz.prog (Yes Tryz.prog Tryz.f3 (Kp.below w0.heap.size) w0) a w:=by
  letI:Tab:=(RL5).tab
  exact runTrue_sound (T:=(RL5).tab) tt.mixed (HandOk.or (inHand_ok (InOk.tab (VRows.same _ _) cr5) (by kernel_rfl)) K_top0_ok) run5 (St.same (VRows.same _ _) s)
end Go.Proofs.YtnhgdcgeehcebaaGreatDoor.tv
