/-
  What the law NativeThrowable gives: its runs.
-/
import Derived.Test.YtgejhjencodinaaGreatDoorNTA
set_option linter.unusedSectionVars false
set_option linter.unusedVariables false
set_option maxRecDepth 1000000
set_option maxHeartbeats 0
namespace Go.Proofs.YtgejhjencodinaaGreatDoor.nt
open Go.X Go.RowKit Go.X.chars
abbrev cs4 : List (Nat × Nat × Bool) := [(0, 2, false), (2, 0, false), (3, 1, false), (4, 2, false), (6, 0, false), (7, 1, false), (8, 2, false), (10, 0, false), (11, 1, false), (12, 2, false), (14, 0, false), (15, 1, false), (16, 2, false), (18, 0, false), (19, 1, false), (20, 2, false), (22, 0, false), (23, 1, false), (24, 2, false), (26, 0, false), (27, 1, false), (28, 2, false), (30, 0, false), (31, 1, false), (32, 2, false), (34, 0, false), (35, 1, false), (36, 2, false), (38, 0, false), (39, 1, false), (40, 2, false), (42, 0, false), (43, 1, false), (44, 2, false), (46, 0, false), (47, 1, false), (48, 2, false), (50, 0, false), (51, 1, false), (52, 2, false), (54, 0, false), (55, 1, false), (56, 2, false), (58, 0, false), (59, 1, false), (60, 2, false)]
theorem s0_2_0 : GS 0 2 false := fun p h => (by as_aux_lemma => kernel_rfl)
theorem s2_0_0 : GS 2 0 false := fun p h => (by as_aux_lemma => kernel_rfl)
theorem s3_1_0 : GS 3 1 false := fun p h => (by as_aux_lemma => kernel_rfl)
theorem s4_2_0 : GS 4 2 false := fun p h => (by as_aux_lemma => kernel_rfl)
theorem s6_0_0 : GS 6 0 false := fun p h => (by as_aux_lemma => kernel_rfl)
theorem s7_1_0 : GS 7 1 false := fun p h => (by as_aux_lemma => kernel_rfl)
theorem s8_2_0 : GS 8 2 false := fun p h => (by as_aux_lemma => kernel_rfl)
theorem s10_0_0 : GS 10 0 false := fun p h => (by as_aux_lemma => kernel_rfl)
theorem s11_1_0 : GS 11 1 false := fun p h => (by as_aux_lemma => kernel_rfl)
theorem s12_2_0 : GS 12 2 false := fun p h => (by as_aux_lemma => kernel_rfl)
theorem s14_0_0 : GS 14 0 false := fun p h => (by as_aux_lemma => kernel_rfl)
theorem s15_1_0 : GS 15 1 false := fun p h => (by as_aux_lemma => kernel_rfl)
theorem s16_2_0 : GS 16 2 false := fun p h => (by as_aux_lemma => kernel_rfl)
theorem s18_0_0 : GS 18 0 false := fun p h => (by as_aux_lemma => kernel_rfl)
theorem s19_1_0 : GS 19 1 false := fun p h => (by as_aux_lemma => kernel_rfl)
theorem s20_2_0 : GS 20 2 false := fun p h => (by as_aux_lemma => kernel_rfl)
theorem s22_0_0 : GS 22 0 false := fun p h => (by as_aux_lemma => kernel_rfl)
theorem s23_1_0 : GS 23 1 false := fun p h => (by as_aux_lemma => kernel_rfl)
theorem s24_2_0 : GS 24 2 false := fun p h => (by as_aux_lemma => kernel_rfl)
theorem s26_0_0 : GS 26 0 false := fun p h => (by as_aux_lemma => kernel_rfl)
theorem s27_1_0 : GS 27 1 false := fun p h => (by as_aux_lemma => kernel_rfl)
theorem s28_2_0 : GS 28 2 false := fun p h => (by as_aux_lemma => kernel_rfl)
theorem s30_0_0 : GS 30 0 false := fun p h => (by as_aux_lemma => kernel_rfl)
theorem s31_1_0 : GS 31 1 false := fun p h => (by as_aux_lemma => kernel_rfl)
theorem s32_2_0 : GS 32 2 false := fun p h => (by as_aux_lemma => kernel_rfl)
theorem s34_0_0 : GS 34 0 false := fun p h => (by as_aux_lemma => kernel_rfl)
theorem s35_1_0 : GS 35 1 false := fun p h => (by as_aux_lemma => kernel_rfl)
theorem s36_2_0 : GS 36 2 false := fun p h => (by as_aux_lemma => kernel_rfl)
theorem s38_0_0 : GS 38 0 false := fun p h => (by as_aux_lemma => kernel_rfl)
theorem s39_1_0 : GS 39 1 false := fun p h => (by as_aux_lemma => kernel_rfl)
theorem s40_2_0 : GS 40 2 false := fun p h => (by as_aux_lemma => kernel_rfl)
theorem s42_0_0 : GS 42 0 false := fun p h => (by as_aux_lemma => kernel_rfl)
theorem s43_1_0 : GS 43 1 false := fun p h => (by as_aux_lemma => kernel_rfl)
theorem s44_2_0 : GS 44 2 false := fun p h => (by as_aux_lemma => kernel_rfl)
theorem s46_0_0 : GS 46 0 false := fun p h => (by as_aux_lemma => kernel_rfl)
theorem s47_1_0 : GS 47 1 false := fun p h => (by as_aux_lemma => kernel_rfl)
theorem s48_2_0 : GS 48 2 false := fun p h => (by as_aux_lemma => kernel_rfl)
theorem s50_0_0 : GS 50 0 false := fun p h => (by as_aux_lemma => kernel_rfl)
theorem s51_1_0 : GS 51 1 false := fun p h => (by as_aux_lemma => kernel_rfl)
theorem s52_2_0 : GS 52 2 false := fun p h => (by as_aux_lemma => kernel_rfl)
theorem s54_0_0 : GS 54 0 false := fun p h => (by as_aux_lemma => kernel_rfl)
theorem s55_1_0 : GS 55 1 false := fun p h => (by as_aux_lemma => kernel_rfl)
theorem s56_2_0 : GS 56 2 false := fun p h => (by as_aux_lemma => kernel_rfl)
theorem s58_0_0 : GS 58 0 false := fun p h => (by as_aux_lemma => kernel_rfl)
theorem s59_1_0 : GS 59 1 false := fun p h => (by as_aux_lemma => kernel_rfl)
theorem s60_2_0 : GS 60 2 false := fun p h => (by as_aux_lemma => kernel_rfl)
theorem all4 : ∀ q ∈ cs4, GS q.1 q.2.1 q.2.2 := allC (G := fun q : Nat × Nat × Bool => GS q.1 q.2.1 q.2.2) s0_2_0 (allC (G := fun q : Nat × Nat × Bool => GS q.1 q.2.1 q.2.2) s2_0_0 (allC (G := fun q : Nat × Nat × Bool => GS q.1 q.2.1 q.2.2) s3_1_0 (allC (G := fun q : Nat × Nat × Bool => GS q.1 q.2.1 q.2.2) s4_2_0 (allC (G := fun q : Nat × Nat × Bool => GS q.1 q.2.1 q.2.2) s6_0_0 (allC (G := fun q : Nat × Nat × Bool => GS q.1 q.2.1 q.2.2) s7_1_0 (allC (G := fun q : Nat × Nat × Bool => GS q.1 q.2.1 q.2.2) s8_2_0 (allC (G := fun q : Nat × Nat × Bool => GS q.1 q.2.1 q.2.2) s10_0_0 (allC (G := fun q : Nat × Nat × Bool => GS q.1 q.2.1 q.2.2) s11_1_0 (allC (G := fun q : Nat × Nat × Bool => GS q.1 q.2.1 q.2.2) s12_2_0 (allC (G := fun q : Nat × Nat × Bool => GS q.1 q.2.1 q.2.2) s14_0_0 (allC (G := fun q : Nat × Nat × Bool => GS q.1 q.2.1 q.2.2) s15_1_0 (allC (G := fun q : Nat × Nat × Bool => GS q.1 q.2.1 q.2.2) s16_2_0 (allC (G := fun q : Nat × Nat × Bool => GS q.1 q.2.1 q.2.2) s18_0_0 (allC (G := fun q : Nat × Nat × Bool => GS q.1 q.2.1 q.2.2) s19_1_0 (allC (G := fun q : Nat × Nat × Bool => GS q.1 q.2.1 q.2.2) s20_2_0 (allC (G := fun q : Nat × Nat × Bool => GS q.1 q.2.1 q.2.2) s22_0_0 (allC (G := fun q : Nat × Nat × Bool => GS q.1 q.2.1 q.2.2) s23_1_0 (allC (G := fun q : Nat × Nat × Bool => GS q.1 q.2.1 q.2.2) s24_2_0 (allC (G := fun q : Nat × Nat × Bool => GS q.1 q.2.1 q.2.2) s26_0_0 (allC (G := fun q : Nat × Nat × Bool => GS q.1 q.2.1 q.2.2) s27_1_0 (allC (G := fun q : Nat × Nat × Bool => GS q.1 q.2.1 q.2.2) s28_2_0 (allC (G := fun q : Nat × Nat × Bool => GS q.1 q.2.1 q.2.2) s30_0_0 (allC (G := fun q : Nat × Nat × Bool => GS q.1 q.2.1 q.2.2) s31_1_0 (allC (G := fun q : Nat × Nat × Bool => GS q.1 q.2.1 q.2.2) s32_2_0 (allC (G := fun q : Nat × Nat × Bool => GS q.1 q.2.1 q.2.2) s34_0_0 (allC (G := fun q : Nat × Nat × Bool => GS q.1 q.2.1 q.2.2) s35_1_0 (allC (G := fun q : Nat × Nat × Bool => GS q.1 q.2.1 q.2.2) s36_2_0 (allC (G := fun q : Nat × Nat × Bool => GS q.1 q.2.1 q.2.2) s38_0_0 (allC (G := fun q : Nat × Nat × Bool => GS q.1 q.2.1 q.2.2) s39_1_0 (allC (G := fun q : Nat × Nat × Bool => GS q.1 q.2.1 q.2.2) s40_2_0 (allC (G := fun q : Nat × Nat × Bool => GS q.1 q.2.1 q.2.2) s42_0_0 (allC (G := fun q : Nat × Nat × Bool => GS q.1 q.2.1 q.2.2) s43_1_0 (allC (G := fun q : Nat × Nat × Bool => GS q.1 q.2.1 q.2.2) s44_2_0 (allC (G := fun q : Nat × Nat × Bool => GS q.1 q.2.1 q.2.2) s46_0_0 (allC (G := fun q : Nat × Nat × Bool => GS q.1 q.2.1 q.2.2) s47_1_0 (allC (G := fun q : Nat × Nat × Bool => GS q.1 q.2.1 q.2.2) s48_2_0 (allC (G := fun q : Nat × Nat × Bool => GS q.1 q.2.1 q.2.2) s50_0_0 (allC (G := fun q : Nat × Nat × Bool => GS q.1 q.2.1 q.2.2) s51_1_0 (allC (G := fun q : Nat × Nat × Bool => GS q.1 q.2.1 q.2.2) s52_2_0 (allC (G := fun q : Nat × Nat × Bool => GS q.1 q.2.1 q.2.2) s54_0_0 (allC (G := fun q : Nat × Nat × Bool => GS q.1 q.2.1 q.2.2) s55_1_0 (allC (G := fun q : Nat × Nat × Bool => GS q.1 q.2.1 q.2.2) s56_2_0 (allC (G := fun q : Nat × Nat × Bool => GS q.1 q.2.1 q.2.2) s58_0_0 (allC (G := fun q : Nat × Nat × Bool => GS q.1 q.2.1 q.2.2) s59_1_0 (allC (G := fun q : Nat × Nat × Bool => GS q.1 q.2.1 q.2.2) s60_2_0 (allNil))))))))))))))))))))))))))))))))))))))))))))))
end Go.Proofs.YtgejhjencodinaaGreatDoor.nt
