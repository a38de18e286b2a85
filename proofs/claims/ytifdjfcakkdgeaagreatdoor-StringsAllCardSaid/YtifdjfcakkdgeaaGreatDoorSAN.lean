/-
  The law StringsAll: all rounds.
-/
import Derived.Test.YtifdjfcakkdgeaaGreatDoorSAN0
import Derived.Test.YtifdjfcakkdgeaaGreatDoorSAN1
import Derived.Test.YtifdjfcakkdgeaaGreatDoorSAN2
set_option linter.unusedVariables false
set_option linter.unusedSimpArgs false
set_option linter.unusedSectionVars false
set_option maxRecDepth 1000000
set_option maxHeartbeats 0
namespace Go.Proofs.YtifdjfcakkdgeaaGreatDoor.sa
open Go.X Go.RowKit Go.Proofs
theorem goM : ∀ m, m < 15 → ∀ k, k < m → ∀ s, GO m k s
  | 0, _, k, h, _ => by omega
  | 1, _, k, h, s => go1 k h s
  | 2, _, k, h, s => go2 k h s
  | 3, _, k, h, s => go3 k h s
  | 4, _, k, h, s => go4 k h s
  | 5, _, k, h, s => go5 k h s
  | 6, _, k, h, s => go6 k h s
  | 7, _, k, h, s => go7 k h s
  | 8, _, k, h, s => go8 k h s
  | 9, _, k, h, s => go9 k h s
  | 10, _, k, h, s => go10 k h s
  | 11, _, k, h, s => go11 k h s
  | 12, _, k, h, s => go12 k h s
  | 13, _, k, h, s => go13 k h s
  | 14, _, k, h, s => go14 k h s
  | n + 15, h, _, _, _ => by omega
theorem gnM : ∀ m, m < 15 → ∀ s, GN m s
  | 0, _, s => gn0 s
  | 1, _, s => gn1 s
  | 2, _, s => gn2 s
  | 3, _, s => gn3 s
  | 4, _, s => gn4 s
  | 5, _, s => gn5 s
  | 6, _, s => gn6 s
  | 7, _, s => gn7 s
  | 8, _, s => gn8 s
  | 9, _, s => gn9 s
  | 10, _, s => gn10 s
  | 11, _, s => gn11 s
  | 12, _, s => gn12 s
  | 13, _, s => gn13 s
  | 14, _, s => gn14 s
  | n + 15, h, _ => by omega
end Go.Proofs.YtifdjfcakkdgeaaGreatDoor.sa
