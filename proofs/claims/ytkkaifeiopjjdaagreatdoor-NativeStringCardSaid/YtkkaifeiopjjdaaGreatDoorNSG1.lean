/-
  The law NativeString: runs of the making of a text.
-/
import Derived.Test.YtkkaifeiopjjdaaGreatDoorNSG
set_option maxRecDepth 1000000
set_option maxHeartbeats 0
namespace Go.Proofs.YtkkaifeiopjjdaaGreatDoor.ns
open Go.X Go.RowKit Go.Proofs
theorem ha0 : HA 0 (aT 0) (bT 0) := fun p h => by as_aux_lemma => kernel_rfl
theorem ha1 : HA 1 (aT 1) (bT 1) := fun p h => by as_aux_lemma => kernel_rfl
theorem ha2 : HA 2 (aT 2) (bT 2) := fun p h => by as_aux_lemma => kernel_rfl
theorem hr0 : HR_ 0 := fun p h => by as_aux_lemma => kernel_rfl
theorem hr1 : HR_ 1 := fun p h => by as_aux_lemma => kernel_rfl
theorem hr2 : HR_ 2 := fun p h => by as_aux_lemma => kernel_rfl
theorem hi0 : HI 0 := fun p h => by as_aux_lemma => kernel_rfl
theorem hi1 : HI 1 := fun p h => by as_aux_lemma => kernel_rfl
theorem hi2 : HI 2 := fun p h => by as_aux_lemma => kernel_rfl
theorem hw0 : HW 0 := fun p q c o3 hk => by as_aux_lemma => kernel_rfl
theorem hw1 : HW 1 := fun p q c o3 hk => by as_aux_lemma => kernel_rfl
theorem hw2 : HW 2 := fun p q c o3 hk => by as_aux_lemma => kernel_rfl
theorem hy0 : HY 0 := fun p q hk => by as_aux_lemma => kernel_rfl
theorem hy1 : HY 1 := fun p q hk => by as_aux_lemma => kernel_rfl
theorem hy2 : HY 2 := fun p q hk => by as_aux_lemma => kernel_rfl
theorem hz0 : HZ 0 := fun p q => by as_aux_lemma => kernel_rfl
theorem hz1 : HZ 1 := fun p q => by as_aux_lemma => kernel_rfl
theorem hz2 : HZ 2 := fun p q => by as_aux_lemma => kernel_rfl
end Go.Proofs.YtkkaifeiopjjdaaGreatDoor.ns
