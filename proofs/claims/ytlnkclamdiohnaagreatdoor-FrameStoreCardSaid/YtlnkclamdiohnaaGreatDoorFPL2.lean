/-
  The reference reads the type that a text begins with: a class; its runs.
-/
import Derived.Test.YtlnkclamdiohnaaGreatDoorFPL
set_option linter.unusedVariables false
set_option linter.unusedSimpArgs false
set_option linter.unusedSectionVars false
set_option maxRecDepth 1000000
set_option maxHeartbeats 0
namespace Go.Proofs.YtlnkclamdiohnaaGreatDoor.fp
open Go.X Go.RowKit Go.Proofs
theorem lok0_0 : GLok0 0 := fun s d hs hlt c0 c1 c2 c3 c4 c5 c6 hr hj h59 hp => (by as_aux_lemma => kernel_rfl)
theorem lok0_1 : GLok0 1 := fun s d hs hlt c0 c1 c2 c3 c4 c5 c6 hr hj h59 hp => (by as_aux_lemma => kernel_rfl)
theorem lok0_2 : GLok0 2 := fun s d hs hlt c0 c1 c2 c3 c4 c5 c6 hr hj h59 hp => (by as_aux_lemma => kernel_rfl)
theorem lok0_3 : GLok0 3 := fun s d hs hlt c0 c1 c2 c3 c4 c5 c6 hr hj h59 hp => (by as_aux_lemma => kernel_rfl)
theorem lok0_4 : GLok0 4 := fun s d hs hlt c0 c1 c2 c3 c4 c5 c6 hr hj h59 hp => (by as_aux_lemma => kernel_rfl)
theorem lok0_5 : GLok0 5 := fun s d hs hlt c0 c1 c2 c3 c4 c5 c6 hr hj h59 hp => (by as_aux_lemma => kernel_rfl)
theorem lok0_6 : GLok0 6 := fun s d hs hlt c0 c1 c2 c3 c4 c5 c6 hr hj h59 hp => (by as_aux_lemma => kernel_rfl)
theorem lok0_7 : GLok0 7 := fun s d hs hlt c0 c1 c2 c3 c4 c5 c6 hr hj h59 hp => (by as_aux_lemma => kernel_rfl)
theorem lok0_8 : GLok0 8 := fun s d hs hlt c0 c1 c2 c3 c4 c5 c6 hr hj h59 hp => (by as_aux_lemma => kernel_rfl)
theorem lok0_9 : GLok0 9 := fun s d hs hlt c0 c1 c2 c3 c4 c5 c6 hr hj h59 hp => (by as_aux_lemma => kernel_rfl)
theorem lok0_10 : GLok0 10 := fun s d hs hlt c0 c1 c2 c3 c4 c5 c6 hr hj h59 hp => (by as_aux_lemma => kernel_rfl)
theorem lok0_11 : GLok0 11 := fun s d hs hlt c0 c1 c2 c3 c4 c5 c6 hr hj h59 hp => (by as_aux_lemma => kernel_rfl)
theorem lok0_12 : GLok0 12 := fun s d hs hlt c0 c1 c2 c3 c4 c5 c6 hr hj h59 hp => (by as_aux_lemma => kernel_rfl)
theorem lok0_13 : GLok0 13 := fun s d hs hlt c0 c1 c2 c3 c4 c5 c6 hr hj h59 hp => (by as_aux_lemma => kernel_rfl)
theorem lok0_14 : GLok0 14 := fun s d hs hlt c0 c1 c2 c3 c4 c5 c6 hr hj h59 hp => (by as_aux_lemma => kernel_rfl)
theorem lok0_15 : GLok0 15 := fun s d hs hlt c0 c1 c2 c3 c4 c5 c6 hr hj h59 hp => (by as_aux_lemma => kernel_rfl)
theorem lok0_16 : GLok0 16 := fun s d hs hlt c0 c1 c2 c3 c4 c5 c6 hr hj h59 hp => (by as_aux_lemma => kernel_rfl)
theorem lok0_17 : GLok0 17 := fun s d hs hlt c0 c1 c2 c3 c4 c5 c6 hr hj h59 hp => (by as_aux_lemma => kernel_rfl)
theorem lok0_18 : GLok0 18 := fun s d hs hlt c0 c1 c2 c3 c4 c5 c6 hr hj h59 hp => (by as_aux_lemma => kernel_rfl)
theorem lok0_19 : GLok0 19 := fun s d hs hlt c0 c1 c2 c3 c4 c5 c6 hr hj h59 hp => (by as_aux_lemma => kernel_rfl)
theorem lok0_20 : GLok0 20 := fun s d hs hlt c0 c1 c2 c3 c4 c5 c6 hr hj h59 hp => (by as_aux_lemma => kernel_rfl)
theorem lok0_21 : GLok0 21 := fun s d hs hlt c0 c1 c2 c3 c4 c5 c6 hr hj h59 hp => (by as_aux_lemma => kernel_rfl)
theorem lok0_22 : GLok0 22 := fun s d hs hlt c0 c1 c2 c3 c4 c5 c6 hr hj h59 hp => (by as_aux_lemma => kernel_rfl)
theorem lok0_23 : GLok0 23 := fun s d hs hlt c0 c1 c2 c3 c4 c5 c6 hr hj h59 hp => (by as_aux_lemma => kernel_rfl)
theorem lok0_24 : GLok0 24 := fun s d hs hlt c0 c1 c2 c3 c4 c5 c6 hr hj h59 hp => (by as_aux_lemma => kernel_rfl)
theorem lok0_25 : GLok0 25 := fun s d hs hlt c0 c1 c2 c3 c4 c5 c6 hr hj h59 hp => (by as_aux_lemma => kernel_rfl)
theorem lok0_26 : GLok0 26 := fun s d hs hlt c0 c1 c2 c3 c4 c5 c6 hr hj h59 hp => (by as_aux_lemma => kernel_rfl)
theorem lok0_27 : GLok0 27 := fun s d hs hlt c0 c1 c2 c3 c4 c5 c6 hr hj h59 hp => (by as_aux_lemma => kernel_rfl)
theorem lok0_28 : GLok0 28 := fun s d hs hlt c0 c1 c2 c3 c4 c5 c6 hr hj h59 hp => (by as_aux_lemma => kernel_rfl)
theorem lok0_29 : GLok0 29 := fun s d hs hlt c0 c1 c2 c3 c4 c5 c6 hr hj h59 hp => (by as_aux_lemma => kernel_rfl)
theorem lok0_30 : GLok0 30 := fun s d hs hlt c0 c1 c2 c3 c4 c5 c6 hr hj h59 hp => (by as_aux_lemma => kernel_rfl)
theorem lok0_31 : GLok0 31 := fun s d hs hlt c0 c1 c2 c3 c4 c5 c6 hr hj h59 hp => (by as_aux_lemma => kernel_rfl)
theorem lok0_32 : GLok0 32 := fun s d hs hlt c0 c1 c2 c3 c4 c5 c6 hr hj h59 hp => (by as_aux_lemma => kernel_rfl)
theorem lok0_33 : GLok0 33 := fun s d hs hlt c0 c1 c2 c3 c4 c5 c6 hr hj h59 hp => (by as_aux_lemma => kernel_rfl)
theorem lok0_34 : GLok0 34 := fun s d hs hlt c0 c1 c2 c3 c4 c5 c6 hr hj h59 hp => (by as_aux_lemma => kernel_rfl)
theorem lok0_35 : GLok0 35 := fun s d hs hlt c0 c1 c2 c3 c4 c5 c6 hr hj h59 hp => (by as_aux_lemma => kernel_rfl)
theorem lok0_36 : GLok0 36 := fun s d hs hlt c0 c1 c2 c3 c4 c5 c6 hr hj h59 hp => (by as_aux_lemma => kernel_rfl)
theorem lok0_37 : GLok0 37 := fun s d hs hlt c0 c1 c2 c3 c4 c5 c6 hr hj h59 hp => (by as_aux_lemma => kernel_rfl)
theorem lok0_38 : GLok0 38 := fun s d hs hlt c0 c1 c2 c3 c4 c5 c6 hr hj h59 hp => (by as_aux_lemma => kernel_rfl)
theorem lok0_39 : GLok0 39 := fun s d hs hlt c0 c1 c2 c3 c4 c5 c6 hr hj h59 hp => (by as_aux_lemma => kernel_rfl)
theorem lok0_40 : GLok0 40 := fun s d hs hlt c0 c1 c2 c3 c4 c5 c6 hr hj h59 hp => (by as_aux_lemma => kernel_rfl)
theorem lok0_41 : GLok0 41 := fun s d hs hlt c0 c1 c2 c3 c4 c5 c6 hr hj h59 hp => (by as_aux_lemma => kernel_rfl)
theorem lok0_42 : GLok0 42 := fun s d hs hlt c0 c1 c2 c3 c4 c5 c6 hr hj h59 hp => (by as_aux_lemma => kernel_rfl)
theorem lok0_43 : GLok0 43 := fun s d hs hlt c0 c1 c2 c3 c4 c5 c6 hr hj h59 hp => (by as_aux_lemma => kernel_rfl)
theorem lok0_44 : GLok0 44 := fun s d hs hlt c0 c1 c2 c3 c4 c5 c6 hr hj h59 hp => (by as_aux_lemma => kernel_rfl)
theorem lok0_45 : GLok0 45 := fun s d hs hlt c0 c1 c2 c3 c4 c5 c6 hr hj h59 hp => (by as_aux_lemma => kernel_rfl)
theorem lok0_46 : GLok0 46 := fun s d hs hlt c0 c1 c2 c3 c4 c5 c6 hr hj h59 hp => (by as_aux_lemma => kernel_rfl)
theorem lok0_47 : GLok0 47 := fun s d hs hlt c0 c1 c2 c3 c4 c5 c6 hr hj h59 hp => (by as_aux_lemma => kernel_rfl)
theorem lok0_48 : GLok0 48 := fun s d hs hlt c0 c1 c2 c3 c4 c5 c6 hr hj h59 hp => (by as_aux_lemma => kernel_rfl)
theorem lok0_49 : GLok0 49 := fun s d hs hlt c0 c1 c2 c3 c4 c5 c6 hr hj h59 hp => (by as_aux_lemma => kernel_rfl)
theorem lok0_50 : GLok0 50 := fun s d hs hlt c0 c1 c2 c3 c4 c5 c6 hr hj h59 hp => (by as_aux_lemma => kernel_rfl)
theorem lok0_51 : GLok0 51 := fun s d hs hlt c0 c1 c2 c3 c4 c5 c6 hr hj h59 hp => (by as_aux_lemma => kernel_rfl)
theorem lok0_52 : GLok0 52 := fun s d hs hlt c0 c1 c2 c3 c4 c5 c6 hr hj h59 hp => (by as_aux_lemma => kernel_rfl)
theorem lok0_53 : GLok0 53 := fun s d hs hlt c0 c1 c2 c3 c4 c5 c6 hr hj h59 hp => (by as_aux_lemma => kernel_rfl)
theorem lok0_54 : GLok0 54 := fun s d hs hlt c0 c1 c2 c3 c4 c5 c6 hr hj h59 hp => (by as_aux_lemma => kernel_rfl)
theorem lok0_55 : GLok0 55 := fun s d hs hlt c0 c1 c2 c3 c4 c5 c6 hr hj h59 hp => (by as_aux_lemma => kernel_rfl)
theorem lok0_56 : GLok0 56 := fun s d hs hlt c0 c1 c2 c3 c4 c5 c6 hr hj h59 hp => (by as_aux_lemma => kernel_rfl)
theorem lok0_57 : GLok0 57 := fun s d hs hlt c0 c1 c2 c3 c4 c5 c6 hr hj h59 hp => (by as_aux_lemma => kernel_rfl)
theorem lok0_58 : GLok0 58 := fun s d hs hlt c0 c1 c2 c3 c4 c5 c6 hr hj h59 hp => (by as_aux_lemma => kernel_rfl)
theorem lok0_59 : GLok0 59 := fun s d hs hlt c0 c1 c2 c3 c4 c5 c6 hr hj h59 hp => (by as_aux_lemma => kernel_rfl)
theorem lok0 : ∀ j, j < 60 → GLok0 j
  | 0, _ => lok0_0
  | 1, _ => lok0_1
  | 2, _ => lok0_2
  | 3, _ => lok0_3
  | 4, _ => lok0_4
  | 5, _ => lok0_5
  | 6, _ => lok0_6
  | 7, _ => lok0_7
  | 8, _ => lok0_8
  | 9, _ => lok0_9
  | 10, _ => lok0_10
  | 11, _ => lok0_11
  | 12, _ => lok0_12
  | 13, _ => lok0_13
  | 14, _ => lok0_14
  | 15, _ => lok0_15
  | 16, _ => lok0_16
  | 17, _ => lok0_17
  | 18, _ => lok0_18
  | 19, _ => lok0_19
  | 20, _ => lok0_20
  | 21, _ => lok0_21
  | 22, _ => lok0_22
  | 23, _ => lok0_23
  | 24, _ => lok0_24
  | 25, _ => lok0_25
  | 26, _ => lok0_26
  | 27, _ => lok0_27
  | 28, _ => lok0_28
  | 29, _ => lok0_29
  | 30, _ => lok0_30
  | 31, _ => lok0_31
  | 32, _ => lok0_32
  | 33, _ => lok0_33
  | 34, _ => lok0_34
  | 35, _ => lok0_35
  | 36, _ => lok0_36
  | 37, _ => lok0_37
  | 38, _ => lok0_38
  | 39, _ => lok0_39
  | 40, _ => lok0_40
  | 41, _ => lok0_41
  | 42, _ => lok0_42
  | 43, _ => lok0_43
  | 44, _ => lok0_44
  | 45, _ => lok0_45
  | 46, _ => lok0_46
  | 47, _ => lok0_47
  | 48, _ => lok0_48
  | 49, _ => lok0_49
  | 50, _ => lok0_50
  | 51, _ => lok0_51
  | 52, _ => lok0_52
  | 53, _ => lok0_53
  | 54, _ => lok0_54
  | 55, _ => lok0_55
  | 56, _ => lok0_56
  | 57, _ => lok0_57
  | 58, _ => lok0_58
  | 59, _ => lok0_59
  | j + 60, h => absurd h (by omega)
end Go.Proofs.YtlnkclamdiohnaaGreatDoor.fp
