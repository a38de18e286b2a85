/-
  The reference reads the type that a text begins with: a class; its runs.
-/
import Derived.Test.YtlnkclamdiohnaaGreatDoorFPL
set_option linter.unusedVariables false
set_option linter.unusedSimpArgs false
set_option linter.unusedSectionVars false
set_option maxRecDepth 1000000
set_option maxHeartbeats 0
namespace Go.Proofs.YtlnkclamdiohnaaGreatDoor.fp
open Go.X Go.RowKit Go.Proofs
theorem lbad_0 : GLbad 0 := fun s d hs hlt c0 c1 c2 c3 c4 c5 c6 hr hj h59 => (by as_aux_lemma => kernel_rfl)
theorem lbad_1 : GLbad 1 := fun s d hs hlt c0 c1 c2 c3 c4 c5 c6 hr hj h59 => (by as_aux_lemma => kernel_rfl)
theorem lbad_2 : GLbad 2 := fun s d hs hlt c0 c1 c2 c3 c4 c5 c6 hr hj h59 => (by as_aux_lemma => kernel_rfl)
theorem lbad_3 : GLbad 3 := fun s d hs hlt c0 c1 c2 c3 c4 c5 c6 hr hj h59 => (by as_aux_lemma => kernel_rfl)
theorem lbad_4 : GLbad 4 := fun s d hs hlt c0 c1 c2 c3 c4 c5 c6 hr hj h59 => (by as_aux_lemma => kernel_rfl)
theorem lbad_5 : GLbad 5 := fun s d hs hlt c0 c1 c2 c3 c4 c5 c6 hr hj h59 => (by as_aux_lemma => kernel_rfl)
theorem lbad_6 : GLbad 6 := fun s d hs hlt c0 c1 c2 c3 c4 c5 c6 hr hj h59 => (by as_aux_lemma => kernel_rfl)
theorem lbad_7 : GLbad 7 := fun s d hs hlt c0 c1 c2 c3 c4 c5 c6 hr hj h59 => (by as_aux_lemma => kernel_rfl)
theorem lbad_8 : GLbad 8 := fun s d hs hlt c0 c1 c2 c3 c4 c5 c6 hr hj h59 => (by as_aux_lemma => kernel_rfl)
theorem lbad_9 : GLbad 9 := fun s d hs hlt c0 c1 c2 c3 c4 c5 c6 hr hj h59 => (by as_aux_lemma => kernel_rfl)
theorem lbad_10 : GLbad 10 := fun s d hs hlt c0 c1 c2 c3 c4 c5 c6 hr hj h59 => (by as_aux_lemma => kernel_rfl)
theorem lbad_11 : GLbad 11 := fun s d hs hlt c0 c1 c2 c3 c4 c5 c6 hr hj h59 => (by as_aux_lemma => kernel_rfl)
theorem lbad_12 : GLbad 12 := fun s d hs hlt c0 c1 c2 c3 c4 c5 c6 hr hj h59 => (by as_aux_lemma => kernel_rfl)
theorem lbad_13 : GLbad 13 := fun s d hs hlt c0 c1 c2 c3 c4 c5 c6 hr hj h59 => (by as_aux_lemma => kernel_rfl)
theorem lbad_14 : GLbad 14 := fun s d hs hlt c0 c1 c2 c3 c4 c5 c6 hr hj h59 => (by as_aux_lemma => kernel_rfl)
theorem lbad_15 : GLbad 15 := fun s d hs hlt c0 c1 c2 c3 c4 c5 c6 hr hj h59 => (by as_aux_lemma => kernel_rfl)
theorem lbad_16 : GLbad 16 := fun s d hs hlt c0 c1 c2 c3 c4 c5 c6 hr hj h59 => (by as_aux_lemma => kernel_rfl)
theorem lbad_17 : GLbad 17 := fun s d hs hlt c0 c1 c2 c3 c4 c5 c6 hr hj h59 => (by as_aux_lemma => kernel_rfl)
theorem lbad_18 : GLbad 18 := fun s d hs hlt c0 c1 c2 c3 c4 c5 c6 hr hj h59 => (by as_aux_lemma => kernel_rfl)
theorem lbad_19 : GLbad 19 := fun s d hs hlt c0 c1 c2 c3 c4 c5 c6 hr hj h59 => (by as_aux_lemma => kernel_rfl)
theorem lbad_20 : GLbad 20 := fun s d hs hlt c0 c1 c2 c3 c4 c5 c6 hr hj h59 => (by as_aux_lemma => kernel_rfl)
theorem lbad_21 : GLbad 21 := fun s d hs hlt c0 c1 c2 c3 c4 c5 c6 hr hj h59 => (by as_aux_lemma => kernel_rfl)
theorem lbad_22 : GLbad 22 := fun s d hs hlt c0 c1 c2 c3 c4 c5 c6 hr hj h59 => (by as_aux_lemma => kernel_rfl)
theorem lbad_23 : GLbad 23 := fun s d hs hlt c0 c1 c2 c3 c4 c5 c6 hr hj h59 => (by as_aux_lemma => kernel_rfl)
theorem lbad_24 : GLbad 24 := fun s d hs hlt c0 c1 c2 c3 c4 c5 c6 hr hj h59 => (by as_aux_lemma => kernel_rfl)
theorem lbad_25 : GLbad 25 := fun s d hs hlt c0 c1 c2 c3 c4 c5 c6 hr hj h59 => (by as_aux_lemma => kernel_rfl)
theorem lbad_26 : GLbad 26 := fun s d hs hlt c0 c1 c2 c3 c4 c5 c6 hr hj h59 => (by as_aux_lemma => kernel_rfl)
theorem lbad_27 : GLbad 27 := fun s d hs hlt c0 c1 c2 c3 c4 c5 c6 hr hj h59 => (by as_aux_lemma => kernel_rfl)
theorem lbad_28 : GLbad 28 := fun s d hs hlt c0 c1 c2 c3 c4 c5 c6 hr hj h59 => (by as_aux_lemma => kernel_rfl)
theorem lbad_29 : GLbad 29 := fun s d hs hlt c0 c1 c2 c3 c4 c5 c6 hr hj h59 => (by as_aux_lemma => kernel_rfl)
theorem lbad_30 : GLbad 30 := fun s d hs hlt c0 c1 c2 c3 c4 c5 c6 hr hj h59 => (by as_aux_lemma => kernel_rfl)
theorem lbad_31 : GLbad 31 := fun s d hs hlt c0 c1 c2 c3 c4 c5 c6 hr hj h59 => (by as_aux_lemma => kernel_rfl)
theorem lbad_32 : GLbad 32 := fun s d hs hlt c0 c1 c2 c3 c4 c5 c6 hr hj h59 => (by as_aux_lemma => kernel_rfl)
theorem lbad_33 : GLbad 33 := fun s d hs hlt c0 c1 c2 c3 c4 c5 c6 hr hj h59 => (by as_aux_lemma => kernel_rfl)
theorem lbad_34 : GLbad 34 := fun s d hs hlt c0 c1 c2 c3 c4 c5 c6 hr hj h59 => (by as_aux_lemma => kernel_rfl)
theorem lbad_35 : GLbad 35 := fun s d hs hlt c0 c1 c2 c3 c4 c5 c6 hr hj h59 => (by as_aux_lemma => kernel_rfl)
theorem lbad_36 : GLbad 36 := fun s d hs hlt c0 c1 c2 c3 c4 c5 c6 hr hj h59 => (by as_aux_lemma => kernel_rfl)
theorem lbad_37 : GLbad 37 := fun s d hs hlt c0 c1 c2 c3 c4 c5 c6 hr hj h59 => (by as_aux_lemma => kernel_rfl)
theorem lbad_38 : GLbad 38 := fun s d hs hlt c0 c1 c2 c3 c4 c5 c6 hr hj h59 => (by as_aux_lemma => kernel_rfl)
theorem lbad_39 : GLbad 39 := fun s d hs hlt c0 c1 c2 c3 c4 c5 c6 hr hj h59 => (by as_aux_lemma => kernel_rfl)
theorem lbad_40 : GLbad 40 := fun s d hs hlt c0 c1 c2 c3 c4 c5 c6 hr hj h59 => (by as_aux_lemma => kernel_rfl)
theorem lbad_41 : GLbad 41 := fun s d hs hlt c0 c1 c2 c3 c4 c5 c6 hr hj h59 => (by as_aux_lemma => kernel_rfl)
theorem lbad_42 : GLbad 42 := fun s d hs hlt c0 c1 c2 c3 c4 c5 c6 hr hj h59 => (by as_aux_lemma => kernel_rfl)
theorem lbad_43 : GLbad 43 := fun s d hs hlt c0 c1 c2 c3 c4 c5 c6 hr hj h59 => (by as_aux_lemma => kernel_rfl)
theorem lbad_44 : GLbad 44 := fun s d hs hlt c0 c1 c2 c3 c4 c5 c6 hr hj h59 => (by as_aux_lemma => kernel_rfl)
theorem lbad_45 : GLbad 45 := fun s d hs hlt c0 c1 c2 c3 c4 c5 c6 hr hj h59 => (by as_aux_lemma => kernel_rfl)
theorem lbad_46 : GLbad 46 := fun s d hs hlt c0 c1 c2 c3 c4 c5 c6 hr hj h59 => (by as_aux_lemma => kernel_rfl)
theorem lbad_47 : GLbad 47 := fun s d hs hlt c0 c1 c2 c3 c4 c5 c6 hr hj h59 => (by as_aux_lemma => kernel_rfl)
theorem lbad_48 : GLbad 48 := fun s d hs hlt c0 c1 c2 c3 c4 c5 c6 hr hj h59 => (by as_aux_lemma => kernel_rfl)
theorem lbad_49 : GLbad 49 := fun s d hs hlt c0 c1 c2 c3 c4 c5 c6 hr hj h59 => (by as_aux_lemma => kernel_rfl)
theorem lbad_50 : GLbad 50 := fun s d hs hlt c0 c1 c2 c3 c4 c5 c6 hr hj h59 => (by as_aux_lemma => kernel_rfl)
theorem lbad_51 : GLbad 51 := fun s d hs hlt c0 c1 c2 c3 c4 c5 c6 hr hj h59 => (by as_aux_lemma => kernel_rfl)
theorem lbad_52 : GLbad 52 := fun s d hs hlt c0 c1 c2 c3 c4 c5 c6 hr hj h59 => (by as_aux_lemma => kernel_rfl)
theorem lbad_53 : GLbad 53 := fun s d hs hlt c0 c1 c2 c3 c4 c5 c6 hr hj h59 => (by as_aux_lemma => kernel_rfl)
theorem lbad_54 : GLbad 54 := fun s d hs hlt c0 c1 c2 c3 c4 c5 c6 hr hj h59 => (by as_aux_lemma => kernel_rfl)
theorem lbad_55 : GLbad 55 := fun s d hs hlt c0 c1 c2 c3 c4 c5 c6 hr hj h59 => (by as_aux_lemma => kernel_rfl)
theorem lbad_56 : GLbad 56 := fun s d hs hlt c0 c1 c2 c3 c4 c5 c6 hr hj h59 => (by as_aux_lemma => kernel_rfl)
theorem lbad_57 : GLbad 57 := fun s d hs hlt c0 c1 c2 c3 c4 c5 c6 hr hj h59 => (by as_aux_lemma => kernel_rfl)
theorem lbad_58 : GLbad 58 := fun s d hs hlt c0 c1 c2 c3 c4 c5 c6 hr hj h59 => (by as_aux_lemma => kernel_rfl)
theorem lbad_59 : GLbad 59 := fun s d hs hlt c0 c1 c2 c3 c4 c5 c6 hr hj h59 => (by as_aux_lemma => kernel_rfl)
theorem lbad : ∀ j, j < 60 → GLbad j
  | 0, _ => lbad_0
  | 1, _ => lbad_1
  | 2, _ => lbad_2
  | 3, _ => lbad_3
  | 4, _ => lbad_4
  | 5, _ => lbad_5
  | 6, _ => lbad_6
  | 7, _ => lbad_7
  | 8, _ => lbad_8
  | 9, _ => lbad_9
  | 10, _ => lbad_10
  | 11, _ => lbad_11
  | 12, _ => lbad_12
  | 13, _ => lbad_13
  | 14, _ => lbad_14
  | 15, _ => lbad_15
  | 16, _ => lbad_16
  | 17, _ => lbad_17
  | 18, _ => lbad_18
  | 19, _ => lbad_19
  | 20, _ => lbad_20
  | 21, _ => lbad_21
  | 22, _ => lbad_22
  | 23, _ => lbad_23
  | 24, _ => lbad_24
  | 25, _ => lbad_25
  | 26, _ => lbad_26
  | 27, _ => lbad_27
  | 28, _ => lbad_28
  | 29, _ => lbad_29
  | 30, _ => lbad_30
  | 31, _ => lbad_31
  | 32, _ => lbad_32
  | 33, _ => lbad_33
  | 34, _ => lbad_34
  | 35, _ => lbad_35
  | 36, _ => lbad_36
  | 37, _ => lbad_37
  | 38, _ => lbad_38
  | 39, _ => lbad_39
  | 40, _ => lbad_40
  | 41, _ => lbad_41
  | 42, _ => lbad_42
  | 43, _ => lbad_43
  | 44, _ => lbad_44
  | 45, _ => lbad_45
  | 46, _ => lbad_46
  | 47, _ => lbad_47
  | 48, _ => lbad_48
  | 49, _ => lbad_49
  | 50, _ => lbad_50
  | 51, _ => lbad_51
  | 52, _ => lbad_52
  | 53, _ => lbad_53
  | 54, _ => lbad_54
  | 55, _ => lbad_55
  | 56, _ => lbad_56
  | 57, _ => lbad_57
  | 58, _ => lbad_58
  | 59, _ => lbad_59
  | j + 60, h => absurd h (by omega)
end Go.Proofs.YtlnkclamdiohnaaGreatDoor.fp
