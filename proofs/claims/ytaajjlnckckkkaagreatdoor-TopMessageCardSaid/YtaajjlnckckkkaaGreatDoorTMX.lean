/-
  What the law TopMessage gives: its runs.
-/
import Derived.Test.YtaajjlnckckkkaaGreatDoorTMX0
import Derived.Test.YtaajjlnckckkkaaGreatDoorTMX1
import Derived.Test.YtaajjlnckckkkaaGreatDoorTMX2
import Derived.Test.YtaajjlnckckkkaaGreatDoorTMX3
import Derived.Test.YtaajjlnckckkkaaGreatDoorTMX4
import Derived.Test.YtaajjlnckckkkaaGreatDoorTMX5
import Derived.Test.YtaajjlnckckkkaaGreatDoorTMX6
import Derived.Test.YtaajjlnckckkkaaGreatDoorTMX7
import Derived.Test.YtaajjlnckckkkaaGreatDoorTMX8
set_option linter.unusedSectionVars false
set_option linter.unusedVariables false
set_option maxRecDepth 1000000
set_option maxHeartbeats 0
namespace Go.Proofs.YtaajjlnckckkkaaGreatDoor.tm
open Go.X Go.RowKit Go.X.chars8
theorem allSp : ∀ b, ∀ p ∈ spec, GC p b
  | false => allC (G := fun p => GC p false) c0_0 (allC (G := fun p => GC p false) c1_0 (allC (G := fun p => GC p false) c2_0 (allC (G := fun p => GC p false) c3_0 (allC (G := fun p => GC p false) c4_0 (allC (G := fun p => GC p false) c5_0 (allC (G := fun p => GC p false) c6_0 (allC (G := fun p => GC p false) c7_0 (allC (G := fun p => GC p false) c8_0 (allNil)))))))))
  | true => allC (G := fun p => GC p true) c0_1 (allC (G := fun p => GC p true) c1_1 (allC (G := fun p => GC p true) c2_1 (allC (G := fun p => GC p true) c3_1 (allC (G := fun p => GC p true) c4_1 (allC (G := fun p => GC p true) c5_1 (allC (G := fun p => GC p true) c6_1 (allC (G := fun p => GC p true) c7_1 (allC (G := fun p => GC p true) c8_1 (allNil)))))))))
end Go.Proofs.YtaajjlnckckkkaaGreatDoor.tm
