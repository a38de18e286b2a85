/-
  The reference reads the type that a text begins with: a class; its runs.
-/
import Derived.Test.YtlnkclamdiohnaaGreatDoorFPL
set_option linter.unusedVariables false
set_option linter.unusedSimpArgs false
set_option linter.unusedSectionVars false
set_option maxRecDepth 1000000
set_option maxHeartbeats 0
namespace Go.Proofs.YtlnkclamdiohnaaGreatDoor.fp
open Go.X Go.RowKit Go.Proofs
theorem lnf_0 : GLnf 0 := fun s d hs hlt c0 c1 c2 c3 c4 c5 c6 hr hj => (by as_aux_lemma => kernel_rfl)
theorem lnf_1 : GLnf 1 := fun s d hs hlt c0 c1 c2 c3 c4 c5 c6 hr hj => (by as_aux_lemma => kernel_rfl)
theorem lnf_2 : GLnf 2 := fun s d hs hlt c0 c1 c2 c3 c4 c5 c6 hr hj => (by as_aux_lemma => kernel_rfl)
theorem lnf_3 : GLnf 3 := fun s d hs hlt c0 c1 c2 c3 c4 c5 c6 hr hj => (by as_aux_lemma => kernel_rfl)
theorem lnf_4 : GLnf 4 := fun s d hs hlt c0 c1 c2 c3 c4 c5 c6 hr hj => (by as_aux_lemma => kernel_rfl)
theorem lnf_5 : GLnf 5 := fun s d hs hlt c0 c1 c2 c3 c4 c5 c6 hr hj => (by as_aux_lemma => kernel_rfl)
theorem lnf_6 : GLnf 6 := fun s d hs hlt c0 c1 c2 c3 c4 c5 c6 hr hj => (by as_aux_lemma => kernel_rfl)
theorem lnf_7 : GLnf 7 := fun s d hs hlt c0 c1 c2 c3 c4 c5 c6 hr hj => (by as_aux_lemma => kernel_rfl)
theorem lnf_8 : GLnf 8 := fun s d hs hlt c0 c1 c2 c3 c4 c5 c6 hr hj => (by as_aux_lemma => kernel_rfl)
theorem lnf_9 : GLnf 9 := fun s d hs hlt c0 c1 c2 c3 c4 c5 c6 hr hj => (by as_aux_lemma => kernel_rfl)
theorem lnf_10 : GLnf 10 := fun s d hs hlt c0 c1 c2 c3 c4 c5 c6 hr hj => (by as_aux_lemma => kernel_rfl)
theorem lnf_11 : GLnf 11 := fun s d hs hlt c0 c1 c2 c3 c4 c5 c6 hr hj => (by as_aux_lemma => kernel_rfl)
theorem lnf_12 : GLnf 12 := fun s d hs hlt c0 c1 c2 c3 c4 c5 c6 hr hj => (by as_aux_lemma => kernel_rfl)
theorem lnf_13 : GLnf 13 := fun s d hs hlt c0 c1 c2 c3 c4 c5 c6 hr hj => (by as_aux_lemma => kernel_rfl)
theorem lnf_14 : GLnf 14 := fun s d hs hlt c0 c1 c2 c3 c4 c5 c6 hr hj => (by as_aux_lemma => kernel_rfl)
theorem lnf_15 : GLnf 15 := fun s d hs hlt c0 c1 c2 c3 c4 c5 c6 hr hj => (by as_aux_lemma => kernel_rfl)
theorem lnf_16 : GLnf 16 := fun s d hs hlt c0 c1 c2 c3 c4 c5 c6 hr hj => (by as_aux_lemma => kernel_rfl)
theorem lnf_17 : GLnf 17 := fun s d hs hlt c0 c1 c2 c3 c4 c5 c6 hr hj => (by as_aux_lemma => kernel_rfl)
theorem lnf_18 : GLnf 18 := fun s d hs hlt c0 c1 c2 c3 c4 c5 c6 hr hj => (by as_aux_lemma => kernel_rfl)
theorem lnf_19 : GLnf 19 := fun s d hs hlt c0 c1 c2 c3 c4 c5 c6 hr hj => (by as_aux_lemma => kernel_rfl)
theorem lnf_20 : GLnf 20 := fun s d hs hlt c0 c1 c2 c3 c4 c5 c6 hr hj => (by as_aux_lemma => kernel_rfl)
theorem lnf_21 : GLnf 21 := fun s d hs hlt c0 c1 c2 c3 c4 c5 c6 hr hj => (by as_aux_lemma => kernel_rfl)
theorem lnf_22 : GLnf 22 := fun s d hs hlt c0 c1 c2 c3 c4 c5 c6 hr hj => (by as_aux_lemma => kernel_rfl)
theorem lnf_23 : GLnf 23 := fun s d hs hlt c0 c1 c2 c3 c4 c5 c6 hr hj => (by as_aux_lemma => kernel_rfl)
theorem lnf_24 : GLnf 24 := fun s d hs hlt c0 c1 c2 c3 c4 c5 c6 hr hj => (by as_aux_lemma => kernel_rfl)
theorem lnf_25 : GLnf 25 := fun s d hs hlt c0 c1 c2 c3 c4 c5 c6 hr hj => (by as_aux_lemma => kernel_rfl)
theorem lnf_26 : GLnf 26 := fun s d hs hlt c0 c1 c2 c3 c4 c5 c6 hr hj => (by as_aux_lemma => kernel_rfl)
theorem lnf_27 : GLnf 27 := fun s d hs hlt c0 c1 c2 c3 c4 c5 c6 hr hj => (by as_aux_lemma => kernel_rfl)
theorem lnf_28 : GLnf 28 := fun s d hs hlt c0 c1 c2 c3 c4 c5 c6 hr hj => (by as_aux_lemma => kernel_rfl)
theorem lnf_29 : GLnf 29 := fun s d hs hlt c0 c1 c2 c3 c4 c5 c6 hr hj => (by as_aux_lemma => kernel_rfl)
theorem lnf_30 : GLnf 30 := fun s d hs hlt c0 c1 c2 c3 c4 c5 c6 hr hj => (by as_aux_lemma => kernel_rfl)
theorem lnf_31 : GLnf 31 := fun s d hs hlt c0 c1 c2 c3 c4 c5 c6 hr hj => (by as_aux_lemma => kernel_rfl)
theorem lnf_32 : GLnf 32 := fun s d hs hlt c0 c1 c2 c3 c4 c5 c6 hr hj => (by as_aux_lemma => kernel_rfl)
theorem lnf_33 : GLnf 33 := fun s d hs hlt c0 c1 c2 c3 c4 c5 c6 hr hj => (by as_aux_lemma => kernel_rfl)
theorem lnf_34 : GLnf 34 := fun s d hs hlt c0 c1 c2 c3 c4 c5 c6 hr hj => (by as_aux_lemma => kernel_rfl)
theorem lnf_35 : GLnf 35 := fun s d hs hlt c0 c1 c2 c3 c4 c5 c6 hr hj => (by as_aux_lemma => kernel_rfl)
theorem lnf_36 : GLnf 36 := fun s d hs hlt c0 c1 c2 c3 c4 c5 c6 hr hj => (by as_aux_lemma => kernel_rfl)
theorem lnf_37 : GLnf 37 := fun s d hs hlt c0 c1 c2 c3 c4 c5 c6 hr hj => (by as_aux_lemma => kernel_rfl)
theorem lnf_38 : GLnf 38 := fun s d hs hlt c0 c1 c2 c3 c4 c5 c6 hr hj => (by as_aux_lemma => kernel_rfl)
theorem lnf_39 : GLnf 39 := fun s d hs hlt c0 c1 c2 c3 c4 c5 c6 hr hj => (by as_aux_lemma => kernel_rfl)
theorem lnf_40 : GLnf 40 := fun s d hs hlt c0 c1 c2 c3 c4 c5 c6 hr hj => (by as_aux_lemma => kernel_rfl)
theorem lnf_41 : GLnf 41 := fun s d hs hlt c0 c1 c2 c3 c4 c5 c6 hr hj => (by as_aux_lemma => kernel_rfl)
theorem lnf_42 : GLnf 42 := fun s d hs hlt c0 c1 c2 c3 c4 c5 c6 hr hj => (by as_aux_lemma => kernel_rfl)
theorem lnf_43 : GLnf 43 := fun s d hs hlt c0 c1 c2 c3 c4 c5 c6 hr hj => (by as_aux_lemma => kernel_rfl)
theorem lnf_44 : GLnf 44 := fun s d hs hlt c0 c1 c2 c3 c4 c5 c6 hr hj => (by as_aux_lemma => kernel_rfl)
theorem lnf_45 : GLnf 45 := fun s d hs hlt c0 c1 c2 c3 c4 c5 c6 hr hj => (by as_aux_lemma => kernel_rfl)
theorem lnf_46 : GLnf 46 := fun s d hs hlt c0 c1 c2 c3 c4 c5 c6 hr hj => (by as_aux_lemma => kernel_rfl)
theorem lnf_47 : GLnf 47 := fun s d hs hlt c0 c1 c2 c3 c4 c5 c6 hr hj => (by as_aux_lemma => kernel_rfl)
theorem lnf_48 : GLnf 48 := fun s d hs hlt c0 c1 c2 c3 c4 c5 c6 hr hj => (by as_aux_lemma => kernel_rfl)
theorem lnf_49 : GLnf 49 := fun s d hs hlt c0 c1 c2 c3 c4 c5 c6 hr hj => (by as_aux_lemma => kernel_rfl)
theorem lnf_50 : GLnf 50 := fun s d hs hlt c0 c1 c2 c3 c4 c5 c6 hr hj => (by as_aux_lemma => kernel_rfl)
theorem lnf_51 : GLnf 51 := fun s d hs hlt c0 c1 c2 c3 c4 c5 c6 hr hj => (by as_aux_lemma => kernel_rfl)
theorem lnf_52 : GLnf 52 := fun s d hs hlt c0 c1 c2 c3 c4 c5 c6 hr hj => (by as_aux_lemma => kernel_rfl)
theorem lnf_53 : GLnf 53 := fun s d hs hlt c0 c1 c2 c3 c4 c5 c6 hr hj => (by as_aux_lemma => kernel_rfl)
theorem lnf_54 : GLnf 54 := fun s d hs hlt c0 c1 c2 c3 c4 c5 c6 hr hj => (by as_aux_lemma => kernel_rfl)
theorem lnf_55 : GLnf 55 := fun s d hs hlt c0 c1 c2 c3 c4 c5 c6 hr hj => (by as_aux_lemma => kernel_rfl)
theorem lnf_56 : GLnf 56 := fun s d hs hlt c0 c1 c2 c3 c4 c5 c6 hr hj => (by as_aux_lemma => kernel_rfl)
theorem lnf_57 : GLnf 57 := fun s d hs hlt c0 c1 c2 c3 c4 c5 c6 hr hj => (by as_aux_lemma => kernel_rfl)
theorem lnf_58 : GLnf 58 := fun s d hs hlt c0 c1 c2 c3 c4 c5 c6 hr hj => (by as_aux_lemma => kernel_rfl)
theorem lnf_59 : GLnf 59 := fun s d hs hlt c0 c1 c2 c3 c4 c5 c6 hr hj => (by as_aux_lemma => kernel_rfl)
theorem lnf : ∀ j, j < 60 → GLnf j
  | 0, _ => lnf_0
  | 1, _ => lnf_1
  | 2, _ => lnf_2
  | 3, _ => lnf_3
  | 4, _ => lnf_4
  | 5, _ => lnf_5
  | 6, _ => lnf_6
  | 7, _ => lnf_7
  | 8, _ => lnf_8
  | 9, _ => lnf_9
  | 10, _ => lnf_10
  | 11, _ => lnf_11
  | 12, _ => lnf_12
  | 13, _ => lnf_13
  | 14, _ => lnf_14
  | 15, _ => lnf_15
  | 16, _ => lnf_16
  | 17, _ => lnf_17
  | 18, _ => lnf_18
  | 19, _ => lnf_19
  | 20, _ => lnf_20
  | 21, _ => lnf_21
  | 22, _ => lnf_22
  | 23, _ => lnf_23
  | 24, _ => lnf_24
  | 25, _ => lnf_25
  | 26, _ => lnf_26
  | 27, _ => lnf_27
  | 28, _ => lnf_28
  | 29, _ => lnf_29
  | 30, _ => lnf_30
  | 31, _ => lnf_31
  | 32, _ => lnf_32
  | 33, _ => lnf_33
  | 34, _ => lnf_34
  | 35, _ => lnf_35
  | 36, _ => lnf_36
  | 37, _ => lnf_37
  | 38, _ => lnf_38
  | 39, _ => lnf_39
  | 40, _ => lnf_40
  | 41, _ => lnf_41
  | 42, _ => lnf_42
  | 43, _ => lnf_43
  | 44, _ => lnf_44
  | 45, _ => lnf_45
  | 46, _ => lnf_46
  | 47, _ => lnf_47
  | 48, _ => lnf_48
  | 49, _ => lnf_49
  | 50, _ => lnf_50
  | 51, _ => lnf_51
  | 52, _ => lnf_52
  | 53, _ => lnf_53
  | 54, _ => lnf_54
  | 55, _ => lnf_55
  | 56, _ => lnf_56
  | 57, _ => lnf_57
  | 58, _ => lnf_58
  | 59, _ => lnf_59
  | j + 60, h => absurd h (by omega)
end Go.Proofs.YtlnkclamdiohnaaGreatDoor.fp
