/-
  The instruction that makes the arrays, at each number of rows.
-/
import Derived.Test.YthgncmohimdbmaaGreatDoorMXM
import Derived.Test.YthgncmohimdbmaaGreatDoorXN3
import Derived.Test.YthgncmohimdbmaaGreatDoorMBM
import Derived.Test.YthgncmohimdbmaaGreatDoorProg
import Derived.KernelRfl
set_option linter.unusedSectionVars false
set_option linter.unusedVariables false
set_option maxRecDepth 1000000
set_option maxHeartbeats 0
namespace Go.Proofs.YthgncmohimdbmaaGreatDoor.mx
open Go.X Go.RowKit Go.Proofs.YthgncmohimdbmaaGreatDoor
theorem na1 : NAt 1 := ⟨by kernel_rfl, fun m h1 h2 => by as_aux_lemma => kernel_rfl⟩
theorem na4 : NAt 4 := ⟨by kernel_rfl, fun m h1 h2 => by as_aux_lemma => kernel_rfl⟩
theorem na7 : NAt 7 := ⟨by kernel_rfl, fun m h1 h2 => by as_aux_lemma => kernel_rfl⟩
theorem na10 : NAt 10 := ⟨by kernel_rfl, fun m h1 h2 => by as_aux_lemma => kernel_rfl⟩
theorem na13 : NAt 13 := ⟨by kernel_rfl, fun m h1 h2 => by as_aux_lemma => kernel_rfl⟩
theorem na16 : NAt 16 := ⟨by kernel_rfl, fun m h1 h2 => by as_aux_lemma => kernel_rfl⟩
theorem na19 : NAt 19 := ⟨by kernel_rfl, fun m h1 h2 => by as_aux_lemma => kernel_rfl⟩
end Go.Proofs.YthgncmohimdbmaaGreatDoor.mx
