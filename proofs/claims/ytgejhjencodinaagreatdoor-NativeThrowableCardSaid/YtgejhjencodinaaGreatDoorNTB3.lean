/-
  What the law NativeThrowable gives: its runs.
-/
import Derived.Test.YtgejhjencodinaaGreatDoorNTA
set_option linter.unusedSectionVars false
set_option linter.unusedVariables false
set_option maxRecDepth 1000000
set_option maxHeartbeats 0
namespace Go.Proofs.YtgejhjencodinaaGreatDoor.nt
open Go.X Go.RowKit Go.X.chars
abbrev cs3 : List (Nat × Nat × Bool) := [(0, 1, true), (1, 2, true), (3, 0, true), (4, 1, true), (5, 2, true), (7, 0, true), (8, 1, true), (9, 2, true), (11, 0, true), (12, 1, true), (13, 2, true), (15, 0, true), (16, 1, true), (17, 2, true), (19, 0, true), (20, 1, true), (21, 2, true), (23, 0, true), (24, 1, true), (25, 2, true), (27, 0, true), (28, 1, true), (29, 2, true), (31, 0, true), (32, 1, true), (33, 2, true), (35, 0, true), (36, 1, true), (37, 2, true), (39, 0, true), (40, 1, true), (41, 2, true), (43, 0, true), (44, 1, true), (45, 2, true), (47, 0, true), (48, 1, true), (49, 2, true), (51, 0, true), (52, 1, true), (53, 2, true), (55, 0, true), (56, 1, true), (57, 2, true), (59, 0, true), (60, 1, true)]
theorem s0_1_1 : GS 0 1 true := fun p h => (by as_aux_lemma => kernel_rfl)
theorem s1_2_1 : GS 1 2 true := fun p h => (by as_aux_lemma => kernel_rfl)
theorem s3_0_1 : GS 3 0 true := fun p h => (by as_aux_lemma => kernel_rfl)
theorem s4_1_1 : GS 4 1 true := fun p h => (by as_aux_lemma => kernel_rfl)
theorem s5_2_1 : GS 5 2 true := fun p h => (by as_aux_lemma => kernel_rfl)
theorem s7_0_1 : GS 7 0 true := fun p h => (by as_aux_lemma => kernel_rfl)
theorem s8_1_1 : GS 8 1 true := fun p h => (by as_aux_lemma => kernel_rfl)
theorem s9_2_1 : GS 9 2 true := fun p h => (by as_aux_lemma => kernel_rfl)
theorem s11_0_1 : GS 11 0 true := fun p h => (by as_aux_lemma => kernel_rfl)
theorem s12_1_1 : GS 12 1 true := fun p h => (by as_aux_lemma => kernel_rfl)
theorem s13_2_1 : GS 13 2 true := fun p h => (by as_aux_lemma => kernel_rfl)
theorem s15_0_1 : GS 15 0 true := fun p h => (by as_aux_lemma => kernel_rfl)
theorem s16_1_1 : GS 16 1 true := fun p h => (by as_aux_lemma => kernel_rfl)
theorem s17_2_1 : GS 17 2 true := fun p h => (by as_aux_lemma => kernel_rfl)
theorem s19_0_1 : GS 19 0 true := fun p h => (by as_aux_lemma => kernel_rfl)
theorem s20_1_1 : GS 20 1 true := fun p h => (by as_aux_lemma => kernel_rfl)
theorem s21_2_1 : GS 21 2 true := fun p h => (by as_aux_lemma => kernel_rfl)
theorem s23_0_1 : GS 23 0 true := fun p h => (by as_aux_lemma => kernel_rfl)
theorem s24_1_1 : GS 24 1 true := fun p h => (by as_aux_lemma => kernel_rfl)
theorem s25_2_1 : GS 25 2 true := fun p h => (by as_aux_lemma => kernel_rfl)
theorem s27_0_1 : GS 27 0 true := fun p h => (by as_aux_lemma => kernel_rfl)
theorem s28_1_1 : GS 28 1 true := fun p h => (by as_aux_lemma => kernel_rfl)
theorem s29_2_1 : GS 29 2 true := fun p h => (by as_aux_lemma => kernel_rfl)
theorem s31_0_1 : GS 31 0 true := fun p h => (by as_aux_lemma => kernel_rfl)
theorem s32_1_1 : GS 32 1 true := fun p h => (by as_aux_lemma => kernel_rfl)
theorem s33_2_1 : GS 33 2 true := fun p h => (by as_aux_lemma => kernel_rfl)
theorem s35_0_1 : GS 35 0 true := fun p h => (by as_aux_lemma => kernel_rfl)
theorem s36_1_1 : GS 36 1 true := fun p h => (by as_aux_lemma => kernel_rfl)
theorem s37_2_1 : GS 37 2 true := fun p h => (by as_aux_lemma => kernel_rfl)
theorem s39_0_1 : GS 39 0 true := fun p h => (by as_aux_lemma => kernel_rfl)
theorem s40_1_1 : GS 40 1 true := fun p h => (by as_aux_lemma => kernel_rfl)
theorem s41_2_1 : GS 41 2 true := fun p h => (by as_aux_lemma => kernel_rfl)
theorem s43_0_1 : GS 43 0 true := fun p h => (by as_aux_lemma => kernel_rfl)
theorem s44_1_1 : GS 44 1 true := fun p h => (by as_aux_lemma => kernel_rfl)
theorem s45_2_1 : GS 45 2 true := fun p h => (by as_aux_lemma => kernel_rfl)
theorem s47_0_1 : GS 47 0 true := fun p h => (by as_aux_lemma => kernel_rfl)
theorem s48_1_1 : GS 48 1 true := fun p h => (by as_aux_lemma => kernel_rfl)
theorem s49_2_1 : GS 49 2 true := fun p h => (by as_aux_lemma => kernel_rfl)
theorem s51_0_1 : GS 51 0 true := fun p h => (by as_aux_lemma => kernel_rfl)
theorem s52_1_1 : GS 52 1 true := fun p h => (by as_aux_lemma => kernel_rfl)
theorem s53_2_1 : GS 53 2 true := fun p h => (by as_aux_lemma => kernel_rfl)
theorem s55_0_1 : GS 55 0 true := fun p h => (by as_aux_lemma => kernel_rfl)
theorem s56_1_1 : GS 56 1 true := fun p h => (by as_aux_lemma => kernel_rfl)
theorem s57_2_1 : GS 57 2 true := fun p h => (by as_aux_lemma => kernel_rfl)
theorem s59_0_1 : GS 59 0 true := fun p h => (by as_aux_lemma => kernel_rfl)
theorem s60_1_1 : GS 60 1 true := fun p h => (by as_aux_lemma => kernel_rfl)
theorem all3 : ∀ q ∈ cs3, GS q.1 q.2.1 q.2.2 := allC (G := fun q : Nat × Nat × Bool => GS q.1 q.2.1 q.2.2) s0_1_1 (allC (G := fun q : Nat × Nat × Bool => GS q.1 q.2.1 q.2.2) s1_2_1 (allC (G := fun q : Nat × Nat × Bool => GS q.1 q.2.1 q.2.2) s3_0_1 (allC (G := fun q : Nat × Nat × Bool => GS q.1 q.2.1 q.2.2) s4_1_1 (allC (G := fun q : Nat × Nat × Bool => GS q.1 q.2.1 q.2.2) s5_2_1 (allC (G := fun q : Nat × Nat × Bool => GS q.1 q.2.1 q.2.2) s7_0_1 (allC (G := fun q : Nat × Nat × Bool => GS q.1 q.2.1 q.2.2) s8_1_1 (allC (G := fun q : Nat × Nat × Bool => GS q.1 q.2.1 q.2.2) s9_2_1 (allC (G := fun q : Nat × Nat × Bool => GS q.1 q.2.1 q.2.2) s11_0_1 (allC (G := fun q : Nat × Nat × Bool => GS q.1 q.2.1 q.2.2) s12_1_1 (allC (G := fun q : Nat × Nat × Bool => GS q.1 q.2.1 q.2.2) s13_2_1 (allC (G := fun q : Nat × Nat × Bool => GS q.1 q.2.1 q.2.2) s15_0_1 (allC (G := fun q : Nat × Nat × Bool => GS q.1 q.2.1 q.2.2) s16_1_1 (allC (G := fun q : Nat × Nat × Bool => GS q.1 q.2.1 q.2.2) s17_2_1 (allC (G := fun q : Nat × Nat × Bool => GS q.1 q.2.1 q.2.2) s19_0_1 (allC (G := fun q : Nat × Nat × Bool => GS q.1 q.2.1 q.2.2) s20_1_1 (allC (G := fun q : Nat × Nat × Bool => GS q.1 q.2.1 q.2.2) s21_2_1 (allC (G := fun q : Nat × Nat × Bool => GS q.1 q.2.1 q.2.2) s23_0_1 (allC (G := fun q : Nat × Nat × Bool => GS q.1 q.2.1 q.2.2) s24_1_1 (allC (G := fun q : Nat × Nat × Bool => GS q.1 q.2.1 q.2.2) s25_2_1 (allC (G := fun q : Nat × Nat × Bool => GS q.1 q.2.1 q.2.2) s27_0_1 (allC (G := fun q : Nat × Nat × Bool => GS q.1 q.2.1 q.2.2) s28_1_1 (allC (G := fun q : Nat × Nat × Bool => GS q.1 q.2.1 q.2.2) s29_2_1 (allC (G := fun q : Nat × Nat × Bool => GS q.1 q.2.1 q.2.2) s31_0_1 (allC (G := fun q : Nat × Nat × Bool => GS q.1 q.2.1 q.2.2) s32_1_1 (allC (G := fun q : Nat × Nat × Bool => GS q.1 q.2.1 q.2.2) s33_2_1 (allC (G := fun q : Nat × Nat × Bool => GS q.1 q.2.1 q.2.2) s35_0_1 (allC (G := fun q : Nat × Nat × Bool => GS q.1 q.2.1 q.2.2) s36_1_1 (allC (G := fun q : Nat × Nat × Bool => GS q.1 q.2.1 q.2.2) s37_2_1 (allC (G := fun q : Nat × Nat × Bool => GS q.1 q.2.1 q.2.2) s39_0_1 (allC (G := fun q : Nat × Nat × Bool => GS q.1 q.2.1 q.2.2) s40_1_1 (allC (G := fun q : Nat × Nat × Bool => GS q.1 q.2.1 q.2.2) s41_2_1 (allC (G := fun q : Nat × Nat × Bool => GS q.1 q.2.1 q.2.2) s43_0_1 (allC (G := fun q : Nat × Nat × Bool => GS q.1 q.2.1 q.2.2) s44_1_1 (allC (G := fun q : Nat × Nat × Bool => GS q.1 q.2.1 q.2.2) s45_2_1 (allC (G := fun q : Nat × Nat × Bool => GS q.1 q.2.1 q.2.2) s47_0_1 (allC (G := fun q : Nat × Nat × Bool => GS q.1 q.2.1 q.2.2) s48_1_1 (allC (G := fun q : Nat × Nat × Bool => GS q.1 q.2.1 q.2.2) s49_2_1 (allC (G := fun q : Nat × Nat × Bool => GS q.1 q.2.1 q.2.2) s51_0_1 (allC (G := fun q : Nat × Nat × Bool => GS q.1 q.2.1 q.2.2) s52_1_1 (allC (G := fun q : Nat × Nat × Bool => GS q.1 q.2.1 q.2.2) s53_2_1 (allC (G := fun q : Nat × Nat × Bool => GS q.1 q.2.1 q.2.2) s55_0_1 (allC (G := fun q : Nat × Nat × Bool => GS q.1 q.2.1 q.2.2) s56_1_1 (allC (G := fun q : Nat × Nat × Bool => GS q.1 q.2.1 q.2.2) s57_2_1 (allC (G := fun q : Nat × Nat × Bool => GS q.1 q.2.1 q.2.2) s59_0_1 (allC (G := fun q : Nat × Nat × Bool => GS q.1 q.2.1 q.2.2) s60_1_1 (allNil))))))))))))))))))))))))))))))))))))))))))))))
end Go.Proofs.YtgejhjencodinaaGreatDoor.nt
