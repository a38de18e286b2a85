/-
  The instruction that makes the arrays, at each number of rows.
-/
import Derived.Test.YthgncmohimdbmaaGreatDoorMXM
import Derived.Test.YthgncmohimdbmaaGreatDoorXN3
import Derived.Test.YthgncmohimdbmaaGreatDoorMBM
import Derived.Test.YthgncmohimdbmaaGreatDoorProg
import Derived.KernelRfl
set_option linter.unusedSectionVars false
set_option linter.unusedVariables false
set_option maxRecDepth 1000000
set_option maxHeartbeats 0
namespace Go.Proofs.YthgncmohimdbmaaGreatDoor.mx
open Go.X Go.RowKit Go.Proofs.YthgncmohimdbmaaGreatDoor
theorem na2 : NAt 2 := ⟨by kernel_rfl, fun m h1 h2 => by as_aux_lemma => kernel_rfl⟩
theorem na5 : NAt 5 := ⟨by kernel_rfl, fun m h1 h2 => by as_aux_lemma => kernel_rfl⟩
theorem na8 : NAt 8 := ⟨by kernel_rfl, fun m h1 h2 => by as_aux_lemma => kernel_rfl⟩
theorem na11 : NAt 11 := ⟨by kernel_rfl, fun m h1 h2 => by as_aux_lemma => kernel_rfl⟩
theorem na14 : NAt 14 := ⟨by kernel_rfl, fun m h1 h2 => by as_aux_lemma => kernel_rfl⟩
theorem na17 : NAt 17 := ⟨by kernel_rfl, fun m h1 h2 => by as_aux_lemma => kernel_rfl⟩
end Go.Proofs.YthgncmohimdbmaaGreatDoor.mx
