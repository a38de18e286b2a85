/-
  What the law NativeThrowable gives: its runs.
-/
import Derived.Test.YtgejhjencodinaaGreatDoorNTA
set_option linter.unusedSectionVars false
set_option linter.unusedVariables false
set_option maxRecDepth 1000000
set_option maxHeartbeats 0
namespace Go.Proofs.YtgejhjencodinaaGreatDoor.nt
open Go.X Go.RowKit Go.X.chars
abbrev cs2 : List (Nat × Nat × Bool) := [(0, 1, false), (1, 2, false), (3, 0, false), (4, 1, false), (5, 2, false), (7, 0, false), (8, 1, false), (9, 2, false), (11, 0, false), (12, 1, false), (13, 2, false), (15, 0, false), (16, 1, false), (17, 2, false), (19, 0, false), (20, 1, false), (21, 2, false), (23, 0, false), (24, 1, false), (25, 2, false), (27, 0, false), (28, 1, false), (29, 2, false), (31, 0, false), (32, 1, false), (33, 2, false), (35, 0, false), (36, 1, false), (37, 2, false), (39, 0, false), (40, 1, false), (41, 2, false), (43, 0, false), (44, 1, false), (45, 2, false), (47, 0, false), (48, 1, false), (49, 2, false), (51, 0, false), (52, 1, false), (53, 2, false), (55, 0, false), (56, 1, false), (57, 2, false), (59, 0, false), (60, 1, false)]
theorem s0_1_0 : GS 0 1 false := fun p h => (by as_aux_lemma => kernel_rfl)
theorem s1_2_0 : GS 1 2 false := fun p h => (by as_aux_lemma => kernel_rfl)
theorem s3_0_0 : GS 3 0 false := fun p h => (by as_aux_lemma => kernel_rfl)
theorem s4_1_0 : GS 4 1 false := fun p h => (by as_aux_lemma => kernel_rfl)
theorem s5_2_0 : GS 5 2 false := fun p h => (by as_aux_lemma => kernel_rfl)
theorem s7_0_0 : GS 7 0 false := fun p h => (by as_aux_lemma => kernel_rfl)
theorem s8_1_0 : GS 8 1 false := fun p h => (by as_aux_lemma => kernel_rfl)
theorem s9_2_0 : GS 9 2 false := fun p h => (by as_aux_lemma => kernel_rfl)
theorem s11_0_0 : GS 11 0 false := fun p h => (by as_aux_lemma => kernel_rfl)
theorem s12_1_0 : GS 12 1 false := fun p h => (by as_aux_lemma => kernel_rfl)
theorem s13_2_0 : GS 13 2 false := fun p h => (by as_aux_lemma => kernel_rfl)
theorem s15_0_0 : GS 15 0 false := fun p h => (by as_aux_lemma => kernel_rfl)
theorem s16_1_0 : GS 16 1 false := fun p h => (by as_aux_lemma => kernel_rfl)
theorem s17_2_0 : GS 17 2 false := fun p h => (by as_aux_lemma => kernel_rfl)
theorem s19_0_0 : GS 19 0 false := fun p h => (by as_aux_lemma => kernel_rfl)
theorem s20_1_0 : GS 20 1 false := fun p h => (by as_aux_lemma => kernel_rfl)
theorem s21_2_0 : GS 21 2 false := fun p h => (by as_aux_lemma => kernel_rfl)
theorem s23_0_0 : GS 23 0 false := fun p h => (by as_aux_lemma => kernel_rfl)
theorem s24_1_0 : GS 24 1 false := fun p h => (by as_aux_lemma => kernel_rfl)
theorem s25_2_0 : GS 25 2 false := fun p h => (by as_aux_lemma => kernel_rfl)
theorem s27_0_0 : GS 27 0 false := fun p h => (by as_aux_lemma => kernel_rfl)
theorem s28_1_0 : GS 28 1 false := fun p h => (by as_aux_lemma => kernel_rfl)
theorem s29_2_0 : GS 29 2 false := fun p h => (by as_aux_lemma => kernel_rfl)
theorem s31_0_0 : GS 31 0 false := fun p h => (by as_aux_lemma => kernel_rfl)
theorem s32_1_0 : GS 32 1 false := fun p h => (by as_aux_lemma => kernel_rfl)
theorem s33_2_0 : GS 33 2 false := fun p h => (by as_aux_lemma => kernel_rfl)
theorem s35_0_0 : GS 35 0 false := fun p h => (by as_aux_lemma => kernel_rfl)
theorem s36_1_0 : GS 36 1 false := fun p h => (by as_aux_lemma => kernel_rfl)
theorem s37_2_0 : GS 37 2 false := fun p h => (by as_aux_lemma => kernel_rfl)
theorem s39_0_0 : GS 39 0 false := fun p h => (by as_aux_lemma => kernel_rfl)
theorem s40_1_0 : GS 40 1 false := fun p h => (by as_aux_lemma => kernel_rfl)
theorem s41_2_0 : GS 41 2 false := fun p h => (by as_aux_lemma => kernel_rfl)
theorem s43_0_0 : GS 43 0 false := fun p h => (by as_aux_lemma => kernel_rfl)
theorem s44_1_0 : GS 44 1 false := fun p h => (by as_aux_lemma => kernel_rfl)
theorem s45_2_0 : GS 45 2 false := fun p h => (by as_aux_lemma => kernel_rfl)
theorem s47_0_0 : GS 47 0 false := fun p h => (by as_aux_lemma => kernel_rfl)
theorem s48_1_0 : GS 48 1 false := fun p h => (by as_aux_lemma => kernel_rfl)
theorem s49_2_0 : GS 49 2 false := fun p h => (by as_aux_lemma => kernel_rfl)
theorem s51_0_0 : GS 51 0 false := fun p h => (by as_aux_lemma => kernel_rfl)
theorem s52_1_0 : GS 52 1 false := fun p h => (by as_aux_lemma => kernel_rfl)
theorem s53_2_0 : GS 53 2 false := fun p h => (by as_aux_lemma => kernel_rfl)
theorem s55_0_0 : GS 55 0 false := fun p h => (by as_aux_lemma => kernel_rfl)
theorem s56_1_0 : GS 56 1 false := fun p h => (by as_aux_lemma => kernel_rfl)
theorem s57_2_0 : GS 57 2 false := fun p h => (by as_aux_lemma => kernel_rfl)
theorem s59_0_0 : GS 59 0 false := fun p h => (by as_aux_lemma => kernel_rfl)
theorem s60_1_0 : GS 60 1 false := fun p h => (by as_aux_lemma => kernel_rfl)
theorem all2 : ∀ q ∈ cs2, GS q.1 q.2.1 q.2.2 := allC (G := fun q : Nat × Nat × Bool => GS q.1 q.2.1 q.2.2) s0_1_0 (allC (G := fun q : Nat × Nat × Bool => GS q.1 q.2.1 q.2.2) s1_2_0 (allC (G := fun q : Nat × Nat × Bool => GS q.1 q.2.1 q.2.2) s3_0_0 (allC (G := fun q : Nat × Nat × Bool => GS q.1 q.2.1 q.2.2) s4_1_0 (allC (G := fun q : Nat × Nat × Bool => GS q.1 q.2.1 q.2.2) s5_2_0 (allC (G := fun q : Nat × Nat × Bool => GS q.1 q.2.1 q.2.2) s7_0_0 (allC (G := fun q : Nat × Nat × Bool => GS q.1 q.2.1 q.2.2) s8_1_0 (allC (G := fun q : Nat × Nat × Bool => GS q.1 q.2.1 q.2.2) s9_2_0 (allC (G := fun q : Nat × Nat × Bool => GS q.1 q.2.1 q.2.2) s11_0_0 (allC (G := fun q : Nat × Nat × Bool => GS q.1 q.2.1 q.2.2) s12_1_0 (allC (G := fun q : Nat × Nat × Bool => GS q.1 q.2.1 q.2.2) s13_2_0 (allC (G := fun q : Nat × Nat × Bool => GS q.1 q.2.1 q.2.2) s15_0_0 (allC (G := fun q : Nat × Nat × Bool => GS q.1 q.2.1 q.2.2) s16_1_0 (allC (G := fun q : Nat × Nat × Bool => GS q.1 q.2.1 q.2.2) s17_2_0 (allC (G := fun q : Nat × Nat × Bool => GS q.1 q.2.1 q.2.2) s19_0_0 (allC (G := fun q : Nat × Nat × Bool => GS q.1 q.2.1 q.2.2) s20_1_0 (allC (G := fun q : Nat × Nat × Bool => GS q.1 q.2.1 q.2.2) s21_2_0 (allC (G := fun q : Nat × Nat × Bool => GS q.1 q.2.1 q.2.2) s23_0_0 (allC (G := fun q : Nat × Nat × Bool => GS q.1 q.2.1 q.2.2) s24_1_0 (allC (G := fun q : Nat × Nat × Bool => GS q.1 q.2.1 q.2.2) s25_2_0 (allC (G := fun q : Nat × Nat × Bool => GS q.1 q.2.1 q.2.2) s27_0_0 (allC (G := fun q : Nat × Nat × Bool => GS q.1 q.2.1 q.2.2) s28_1_0 (allC (G := fun q : Nat × Nat × Bool => GS q.1 q.2.1 q.2.2) s29_2_0 (allC (G := fun q : Nat × Nat × Bool => GS q.1 q.2.1 q.2.2) s31_0_0 (allC (G := fun q : Nat × Nat × Bool => GS q.1 q.2.1 q.2.2) s32_1_0 (allC (G := fun q : Nat × Nat × Bool => GS q.1 q.2.1 q.2.2) s33_2_0 (allC (G := fun q : Nat × Nat × Bool => GS q.1 q.2.1 q.2.2) s35_0_0 (allC (G := fun q : Nat × Nat × Bool => GS q.1 q.2.1 q.2.2) s36_1_0 (allC (G := fun q : Nat × Nat × Bool => GS q.1 q.2.1 q.2.2) s37_2_0 (allC (G := fun q : Nat × Nat × Bool => GS q.1 q.2.1 q.2.2) s39_0_0 (allC (G := fun q : Nat × Nat × Bool => GS q.1 q.2.1 q.2.2) s40_1_0 (allC (G := fun q : Nat × Nat × Bool => GS q.1 q.2.1 q.2.2) s41_2_0 (allC (G := fun q : Nat × Nat × Bool => GS q.1 q.2.1 q.2.2) s43_0_0 (allC (G := fun q : Nat × Nat × Bool => GS q.1 q.2.1 q.2.2) s44_1_0 (allC (G := fun q : Nat × Nat × Bool => GS q.1 q.2.1 q.2.2) s45_2_0 (allC (G := fun q : Nat × Nat × Bool => GS q.1 q.2.1 q.2.2) s47_0_0 (allC (G := fun q : Nat × Nat × Bool => GS q.1 q.2.1 q.2.2) s48_1_0 (allC (G := fun q : Nat × Nat × Bool => GS q.1 q.2.1 q.2.2) s49_2_0 (allC (G := fun q : Nat × Nat × Bool => GS q.1 q.2.1 q.2.2) s51_0_0 (allC (G := fun q : Nat × Nat × Bool => GS q.1 q.2.1 q.2.2) s52_1_0 (allC (G := fun q : Nat × Nat × Bool => GS q.1 q.2.1 q.2.2) s53_2_0 (allC (G := fun q : Nat × Nat × Bool => GS q.1 q.2.1 q.2.2) s55_0_0 (allC (G := fun q : Nat × Nat × Bool => GS q.1 q.2.1 q.2.2) s56_1_0 (allC (G := fun q : Nat × Nat × Bool => GS q.1 q.2.1 q.2.2) s57_2_0 (allC (G := fun q : Nat × Nat × Bool => GS q.1 q.2.1 q.2.2) s59_0_0 (allC (G := fun q : Nat × Nat × Bool => GS q.1 q.2.1 q.2.2) s60_1_0 (allNil))))))))))))))))))))))))))))))))))))))))))))))
end Go.Proofs.YtgejhjencodinaaGreatDoor.nt
