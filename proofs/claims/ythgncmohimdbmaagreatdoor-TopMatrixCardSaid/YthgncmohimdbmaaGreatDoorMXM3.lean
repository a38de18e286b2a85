/-
  The instruction that makes the arrays, at each number of rows.
-/
import Derived.Test.YthgncmohimdbmaaGreatDoorMXM
import Derived.Test.YthgncmohimdbmaaGreatDoorXN3
import Derived.Test.YthgncmohimdbmaaGreatDoorMBM
import Derived.Test.YthgncmohimdbmaaGreatDoorProg
import Derived.KernelRfl
set_option linter.unusedSectionVars false
set_option linter.unusedVariables false
set_option maxRecDepth 1000000
set_option maxHeartbeats 0
namespace Go.Proofs.YthgncmohimdbmaaGreatDoor.mx
open Go.X Go.RowKit Go.Proofs.YthgncmohimdbmaaGreatDoor
theorem na3 : NAt 3 := ⟨by kernel_rfl, fun m h1 h2 => by as_aux_lemma => kernel_rfl⟩
theorem na6 : NAt 6 := ⟨by kernel_rfl, fun m h1 h2 => by as_aux_lemma => kernel_rfl⟩
theorem na9 : NAt 9 := ⟨by kernel_rfl, fun m h1 h2 => by as_aux_lemma => kernel_rfl⟩
theorem na12 : NAt 12 := ⟨by kernel_rfl, fun m h1 h2 => by as_aux_lemma => kernel_rfl⟩
theorem na15 : NAt 15 := ⟨by kernel_rfl, fun m h1 h2 => by as_aux_lemma => kernel_rfl⟩
theorem na18 : NAt 18 := ⟨by kernel_rfl, fun m h1 h2 => by as_aux_lemma => kernel_rfl⟩
end Go.Proofs.YthgncmohimdbmaaGreatDoor.mx
