/-
  The reference reads the type that a text begins with: a class; its runs.
-/
import Derived.Test.YtlnkclamdiohnaaGreatDoorFPL
set_option linter.unusedVariables false
set_option linter.unusedSimpArgs false
set_option linter.unusedSectionVars false
set_option maxRecDepth 1000000
set_option maxHeartbeats 0
namespace Go.Proofs.YtlnkclamdiohnaaGreatDoor.fp
open Go.X Go.RowKit Go.Proofs
theorem lok1_0 : GLok1 0 := fun s d hs hlt c0 c1 c2 c3 c4 c5 c6 hr hj h59 hp => (by as_aux_lemma => kernel_rfl)
theorem lok1_1 : GLok1 1 := fun s d hs hlt c0 c1 c2 c3 c4 c5 c6 hr hj h59 hp => (by as_aux_lemma => kernel_rfl)
theorem lok1_2 : GLok1 2 := fun s d hs hlt c0 c1 c2 c3 c4 c5 c6 hr hj h59 hp => (by as_aux_lemma => kernel_rfl)
theorem lok1_3 : GLok1 3 := fun s d hs hlt c0 c1 c2 c3 c4 c5 c6 hr hj h59 hp => (by as_aux_lemma => kernel_rfl)
theorem lok1_4 : GLok1 4 := fun s d hs hlt c0 c1 c2 c3 c4 c5 c6 hr hj h59 hp => (by as_aux_lemma => kernel_rfl)
theorem lok1_5 : GLok1 5 := fun s d hs hlt c0 c1 c2 c3 c4 c5 c6 hr hj h59 hp => (by as_aux_lemma => kernel_rfl)
theorem lok1_6 : GLok1 6 := fun s d hs hlt c0 c1 c2 c3 c4 c5 c6 hr hj h59 hp => (by as_aux_lemma => kernel_rfl)
theorem lok1_7 : GLok1 7 := fun s d hs hlt c0 c1 c2 c3 c4 c5 c6 hr hj h59 hp => (by as_aux_lemma => kernel_rfl)
theorem lok1_8 : GLok1 8 := fun s d hs hlt c0 c1 c2 c3 c4 c5 c6 hr hj h59 hp => (by as_aux_lemma => kernel_rfl)
theorem lok1_9 : GLok1 9 := fun s d hs hlt c0 c1 c2 c3 c4 c5 c6 hr hj h59 hp => (by as_aux_lemma => kernel_rfl)
theorem lok1_10 : GLok1 10 := fun s d hs hlt c0 c1 c2 c3 c4 c5 c6 hr hj h59 hp => (by as_aux_lemma => kernel_rfl)
theorem lok1_11 : GLok1 11 := fun s d hs hlt c0 c1 c2 c3 c4 c5 c6 hr hj h59 hp => (by as_aux_lemma => kernel_rfl)
theorem lok1_12 : GLok1 12 := fun s d hs hlt c0 c1 c2 c3 c4 c5 c6 hr hj h59 hp => (by as_aux_lemma => kernel_rfl)
theorem lok1_13 : GLok1 13 := fun s d hs hlt c0 c1 c2 c3 c4 c5 c6 hr hj h59 hp => (by as_aux_lemma => kernel_rfl)
theorem lok1_14 : GLok1 14 := fun s d hs hlt c0 c1 c2 c3 c4 c5 c6 hr hj h59 hp => (by as_aux_lemma => kernel_rfl)
theorem lok1_15 : GLok1 15 := fun s d hs hlt c0 c1 c2 c3 c4 c5 c6 hr hj h59 hp => (by as_aux_lemma => kernel_rfl)
theorem lok1_16 : GLok1 16 := fun s d hs hlt c0 c1 c2 c3 c4 c5 c6 hr hj h59 hp => (by as_aux_lemma => kernel_rfl)
theorem lok1_17 : GLok1 17 := fun s d hs hlt c0 c1 c2 c3 c4 c5 c6 hr hj h59 hp => (by as_aux_lemma => kernel_rfl)
theorem lok1_18 : GLok1 18 := fun s d hs hlt c0 c1 c2 c3 c4 c5 c6 hr hj h59 hp => (by as_aux_lemma => kernel_rfl)
theorem lok1_19 : GLok1 19 := fun s d hs hlt c0 c1 c2 c3 c4 c5 c6 hr hj h59 hp => (by as_aux_lemma => kernel_rfl)
theorem lok1_20 : GLok1 20 := fun s d hs hlt c0 c1 c2 c3 c4 c5 c6 hr hj h59 hp => (by as_aux_lemma => kernel_rfl)
theorem lok1_21 : GLok1 21 := fun s d hs hlt c0 c1 c2 c3 c4 c5 c6 hr hj h59 hp => (by as_aux_lemma => kernel_rfl)
theorem lok1_22 : GLok1 22 := fun s d hs hlt c0 c1 c2 c3 c4 c5 c6 hr hj h59 hp => (by as_aux_lemma => kernel_rfl)
theorem lok1_23 : GLok1 23 := fun s d hs hlt c0 c1 c2 c3 c4 c5 c6 hr hj h59 hp => (by as_aux_lemma => kernel_rfl)
theorem lok1_24 : GLok1 24 := fun s d hs hlt c0 c1 c2 c3 c4 c5 c6 hr hj h59 hp => (by as_aux_lemma => kernel_rfl)
theorem lok1_25 : GLok1 25 := fun s d hs hlt c0 c1 c2 c3 c4 c5 c6 hr hj h59 hp => (by as_aux_lemma => kernel_rfl)
theorem lok1_26 : GLok1 26 := fun s d hs hlt c0 c1 c2 c3 c4 c5 c6 hr hj h59 hp => (by as_aux_lemma => kernel_rfl)
theorem lok1_27 : GLok1 27 := fun s d hs hlt c0 c1 c2 c3 c4 c5 c6 hr hj h59 hp => (by as_aux_lemma => kernel_rfl)
theorem lok1_28 : GLok1 28 := fun s d hs hlt c0 c1 c2 c3 c4 c5 c6 hr hj h59 hp => (by as_aux_lemma => kernel_rfl)
theorem lok1_29 : GLok1 29 := fun s d hs hlt c0 c1 c2 c3 c4 c5 c6 hr hj h59 hp => (by as_aux_lemma => kernel_rfl)
theorem lok1_30 : GLok1 30 := fun s d hs hlt c0 c1 c2 c3 c4 c5 c6 hr hj h59 hp => (by as_aux_lemma => kernel_rfl)
theorem lok1_31 : GLok1 31 := fun s d hs hlt c0 c1 c2 c3 c4 c5 c6 hr hj h59 hp => (by as_aux_lemma => kernel_rfl)
theorem lok1_32 : GLok1 32 := fun s d hs hlt c0 c1 c2 c3 c4 c5 c6 hr hj h59 hp => (by as_aux_lemma => kernel_rfl)
theorem lok1_33 : GLok1 33 := fun s d hs hlt c0 c1 c2 c3 c4 c5 c6 hr hj h59 hp => (by as_aux_lemma => kernel_rfl)
theorem lok1_34 : GLok1 34 := fun s d hs hlt c0 c1 c2 c3 c4 c5 c6 hr hj h59 hp => (by as_aux_lemma => kernel_rfl)
theorem lok1_35 : GLok1 35 := fun s d hs hlt c0 c1 c2 c3 c4 c5 c6 hr hj h59 hp => (by as_aux_lemma => kernel_rfl)
theorem lok1_36 : GLok1 36 := fun s d hs hlt c0 c1 c2 c3 c4 c5 c6 hr hj h59 hp => (by as_aux_lemma => kernel_rfl)
theorem lok1_37 : GLok1 37 := fun s d hs hlt c0 c1 c2 c3 c4 c5 c6 hr hj h59 hp => (by as_aux_lemma => kernel_rfl)
theorem lok1_38 : GLok1 38 := fun s d hs hlt c0 c1 c2 c3 c4 c5 c6 hr hj h59 hp => (by as_aux_lemma => kernel_rfl)
theorem lok1_39 : GLok1 39 := fun s d hs hlt c0 c1 c2 c3 c4 c5 c6 hr hj h59 hp => (by as_aux_lemma => kernel_rfl)
theorem lok1_40 : GLok1 40 := fun s d hs hlt c0 c1 c2 c3 c4 c5 c6 hr hj h59 hp => (by as_aux_lemma => kernel_rfl)
theorem lok1_41 : GLok1 41 := fun s d hs hlt c0 c1 c2 c3 c4 c5 c6 hr hj h59 hp => (by as_aux_lemma => kernel_rfl)
theorem lok1_42 : GLok1 42 := fun s d hs hlt c0 c1 c2 c3 c4 c5 c6 hr hj h59 hp => (by as_aux_lemma => kernel_rfl)
theorem lok1_43 : GLok1 43 := fun s d hs hlt c0 c1 c2 c3 c4 c5 c6 hr hj h59 hp => (by as_aux_lemma => kernel_rfl)
theorem lok1_44 : GLok1 44 := fun s d hs hlt c0 c1 c2 c3 c4 c5 c6 hr hj h59 hp => (by as_aux_lemma => kernel_rfl)
theorem lok1_45 : GLok1 45 := fun s d hs hlt c0 c1 c2 c3 c4 c5 c6 hr hj h59 hp => (by as_aux_lemma => kernel_rfl)
theorem lok1_46 : GLok1 46 := fun s d hs hlt c0 c1 c2 c3 c4 c5 c6 hr hj h59 hp => (by as_aux_lemma => kernel_rfl)
theorem lok1_47 : GLok1 47 := fun s d hs hlt c0 c1 c2 c3 c4 c5 c6 hr hj h59 hp => (by as_aux_lemma => kernel_rfl)
theorem lok1_48 : GLok1 48 := fun s d hs hlt c0 c1 c2 c3 c4 c5 c6 hr hj h59 hp => (by as_aux_lemma => kernel_rfl)
theorem lok1_49 : GLok1 49 := fun s d hs hlt c0 c1 c2 c3 c4 c5 c6 hr hj h59 hp => (by as_aux_lemma => kernel_rfl)
theorem lok1_50 : GLok1 50 := fun s d hs hlt c0 c1 c2 c3 c4 c5 c6 hr hj h59 hp => (by as_aux_lemma => kernel_rfl)
theorem lok1_51 : GLok1 51 := fun s d hs hlt c0 c1 c2 c3 c4 c5 c6 hr hj h59 hp => (by as_aux_lemma => kernel_rfl)
theorem lok1_52 : GLok1 52 := fun s d hs hlt c0 c1 c2 c3 c4 c5 c6 hr hj h59 hp => (by as_aux_lemma => kernel_rfl)
theorem lok1_53 : GLok1 53 := fun s d hs hlt c0 c1 c2 c3 c4 c5 c6 hr hj h59 hp => (by as_aux_lemma => kernel_rfl)
theorem lok1_54 : GLok1 54 := fun s d hs hlt c0 c1 c2 c3 c4 c5 c6 hr hj h59 hp => (by as_aux_lemma => kernel_rfl)
theorem lok1_55 : GLok1 55 := fun s d hs hlt c0 c1 c2 c3 c4 c5 c6 hr hj h59 hp => (by as_aux_lemma => kernel_rfl)
theorem lok1_56 : GLok1 56 := fun s d hs hlt c0 c1 c2 c3 c4 c5 c6 hr hj h59 hp => (by as_aux_lemma => kernel_rfl)
theorem lok1_57 : GLok1 57 := fun s d hs hlt c0 c1 c2 c3 c4 c5 c6 hr hj h59 hp => (by as_aux_lemma => kernel_rfl)
theorem lok1_58 : GLok1 58 := fun s d hs hlt c0 c1 c2 c3 c4 c5 c6 hr hj h59 hp => (by as_aux_lemma => kernel_rfl)
theorem lok1_59 : GLok1 59 := fun s d hs hlt c0 c1 c2 c3 c4 c5 c6 hr hj h59 hp => (by as_aux_lemma => kernel_rfl)
theorem lok1 : ∀ j, j < 60 → GLok1 j
  | 0, _ => lok1_0
  | 1, _ => lok1_1
  | 2, _ => lok1_2
  | 3, _ => lok1_3
  | 4, _ => lok1_4
  | 5, _ => lok1_5
  | 6, _ => lok1_6
  | 7, _ => lok1_7
  | 8, _ => lok1_8
  | 9, _ => lok1_9
  | 10, _ => lok1_10
  | 11, _ => lok1_11
  | 12, _ => lok1_12
  | 13, _ => lok1_13
  | 14, _ => lok1_14
  | 15, _ => lok1_15
  | 16, _ => lok1_16
  | 17, _ => lok1_17
  | 18, _ => lok1_18
  | 19, _ => lok1_19
  | 20, _ => lok1_20
  | 21, _ => lok1_21
  | 22, _ => lok1_22
  | 23, _ => lok1_23
  | 24, _ => lok1_24
  | 25, _ => lok1_25
  | 26, _ => lok1_26
  | 27, _ => lok1_27
  | 28, _ => lok1_28
  | 29, _ => lok1_29
  | 30, _ => lok1_30
  | 31, _ => lok1_31
  | 32, _ => lok1_32
  | 33, _ => lok1_33
  | 34, _ => lok1_34
  | 35, _ => lok1_35
  | 36, _ => lok1_36
  | 37, _ => lok1_37
  | 38, _ => lok1_38
  | 39, _ => lok1_39
  | 40, _ => lok1_40
  | 41, _ => lok1_41
  | 42, _ => lok1_42
  | 43, _ => lok1_43
  | 44, _ => lok1_44
  | 45, _ => lok1_45
  | 46, _ => lok1_46
  | 47, _ => lok1_47
  | 48, _ => lok1_48
  | 49, _ => lok1_49
  | 50, _ => lok1_50
  | 51, _ => lok1_51
  | 52, _ => lok1_52
  | 53, _ => lok1_53
  | 54, _ => lok1_54
  | 55, _ => lok1_55
  | 56, _ => lok1_56
  | 57, _ => lok1_57
  | 58, _ => lok1_58
  | 59, _ => lok1_59
  | j + 60, h => absurd h (by omega)
end Go.Proofs.YtlnkclamdiohnaaGreatDoor.fp
