/-
  What the law NativeThrowable gives: its runs.
-/
import Derived.Test.YtgejhjencodinaaGreatDoorNTA
set_option linter.unusedSectionVars false
set_option linter.unusedVariables false
set_option maxRecDepth 1000000
set_option maxHeartbeats 0
namespace Go.Proofs.YtgejhjencodinaaGreatDoor.nt
open Go.X Go.RowKit Go.X.chars
abbrev cs0 : List (Nat × Nat × Bool) := [(0, 0, false), (1, 1, false), (2, 2, false), (4, 0, false), (5, 1, false), (6, 2, false), (8, 0, false), (9, 1, false), (10, 2, false), (12, 0, false), (13, 1, false), (14, 2, false), (16, 0, false), (17, 1, false), (18, 2, false), (20, 0, false), (21, 1, false), (22, 2, false), (24, 0, false), (25, 1, false), (26, 2, false), (28, 0, false), (29, 1, false), (30, 2, false), (32, 0, false), (33, 1, false), (34, 2, false), (36, 0, false), (37, 1, false), (38, 2, false), (40, 0, false), (41, 1, false), (42, 2, false), (44, 0, false), (45, 1, false), (46, 2, false), (48, 0, false), (49, 1, false), (50, 2, false), (52, 0, false), (53, 1, false), (54, 2, false), (56, 0, false), (57, 1, false), (58, 2, false), (60, 0, false)]
theorem s0_0_0 : GS 0 0 false := fun p h => (by as_aux_lemma => kernel_rfl)
theorem s1_1_0 : GS 1 1 false := fun p h => (by as_aux_lemma => kernel_rfl)
theorem s2_2_0 : GS 2 2 false := fun p h => (by as_aux_lemma => kernel_rfl)
theorem s4_0_0 : GS 4 0 false := fun p h => (by as_aux_lemma => kernel_rfl)
theorem s5_1_0 : GS 5 1 false := fun p h => (by as_aux_lemma => kernel_rfl)
theorem s6_2_0 : GS 6 2 false := fun p h => (by as_aux_lemma => kernel_rfl)
theorem s8_0_0 : GS 8 0 false := fun p h => (by as_aux_lemma => kernel_rfl)
theorem s9_1_0 : GS 9 1 false := fun p h => (by as_aux_lemma => kernel_rfl)
theorem s10_2_0 : GS 10 2 false := fun p h => (by as_aux_lemma => kernel_rfl)
theorem s12_0_0 : GS 12 0 false := fun p h => (by as_aux_lemma => kernel_rfl)
theorem s13_1_0 : GS 13 1 false := fun p h => (by as_aux_lemma => kernel_rfl)
theorem s14_2_0 : GS 14 2 false := fun p h => (by as_aux_lemma => kernel_rfl)
theorem s16_0_0 : GS 16 0 false := fun p h => (by as_aux_lemma => kernel_rfl)
theorem s17_1_0 : GS 17 1 false := fun p h => (by as_aux_lemma => kernel_rfl)
theorem s18_2_0 : GS 18 2 false := fun p h => (by as_aux_lemma => kernel_rfl)
theorem s20_0_0 : GS 20 0 false := fun p h => (by as_aux_lemma => kernel_rfl)
theorem s21_1_0 : GS 21 1 false := fun p h => (by as_aux_lemma => kernel_rfl)
theorem s22_2_0 : GS 22 2 false := fun p h => (by as_aux_lemma => kernel_rfl)
theorem s24_0_0 : GS 24 0 false := fun p h => (by as_aux_lemma => kernel_rfl)
theorem s25_1_0 : GS 25 1 false := fun p h => (by as_aux_lemma => kernel_rfl)
theorem s26_2_0 : GS 26 2 false := fun p h => (by as_aux_lemma => kernel_rfl)
theorem s28_0_0 : GS 28 0 false := fun p h => (by as_aux_lemma => kernel_rfl)
theorem s29_1_0 : GS 29 1 false := fun p h => (by as_aux_lemma => kernel_rfl)
theorem s30_2_0 : GS 30 2 false := fun p h => (by as_aux_lemma => kernel_rfl)
theorem s32_0_0 : GS 32 0 false := fun p h => (by as_aux_lemma => kernel_rfl)
theorem s33_1_0 : GS 33 1 false := fun p h => (by as_aux_lemma => kernel_rfl)
theorem s34_2_0 : GS 34 2 false := fun p h => (by as_aux_lemma => kernel_rfl)
theorem s36_0_0 : GS 36 0 false := fun p h => (by as_aux_lemma => kernel_rfl)
theorem s37_1_0 : GS 37 1 false := fun p h => (by as_aux_lemma => kernel_rfl)
theorem s38_2_0 : GS 38 2 false := fun p h => (by as_aux_lemma => kernel_rfl)
theorem s40_0_0 : GS 40 0 false := fun p h => (by as_aux_lemma => kernel_rfl)
theorem s41_1_0 : GS 41 1 false := fun p h => (by as_aux_lemma => kernel_rfl)
theorem s42_2_0 : GS 42 2 false := fun p h => (by as_aux_lemma => kernel_rfl)
theorem s44_0_0 : GS 44 0 false := fun p h => (by as_aux_lemma => kernel_rfl)
theorem s45_1_0 : GS 45 1 false := fun p h => (by as_aux_lemma => kernel_rfl)
theorem s46_2_0 : GS 46 2 false := fun p h => (by as_aux_lemma => kernel_rfl)
theorem s48_0_0 : GS 48 0 false := fun p h => (by as_aux_lemma => kernel_rfl)
theorem s49_1_0 : GS 49 1 false := fun p h => (by as_aux_lemma => kernel_rfl)
theorem s50_2_0 : GS 50 2 false := fun p h => (by as_aux_lemma => kernel_rfl)
theorem s52_0_0 : GS 52 0 false := fun p h => (by as_aux_lemma => kernel_rfl)
theorem s53_1_0 : GS 53 1 false := fun p h => (by as_aux_lemma => kernel_rfl)
theorem s54_2_0 : GS 54 2 false := fun p h => (by as_aux_lemma => kernel_rfl)
theorem s56_0_0 : GS 56 0 false := fun p h => (by as_aux_lemma => kernel_rfl)
theorem s57_1_0 : GS 57 1 false := fun p h => (by as_aux_lemma => kernel_rfl)
theorem s58_2_0 : GS 58 2 false := fun p h => (by as_aux_lemma => kernel_rfl)
theorem s60_0_0 : GS 60 0 false := fun p h => (by as_aux_lemma => kernel_rfl)
theorem all0 : ∀ q ∈ cs0, GS q.1 q.2.1 q.2.2 := allC (G := fun q : Nat × Nat × Bool => GS q.1 q.2.1 q.2.2) s0_0_0 (allC (G := fun q : Nat × Nat × Bool => GS q.1 q.2.1 q.2.2) s1_1_0 (allC (G := fun q : Nat × Nat × Bool => GS q.1 q.2.1 q.2.2) s2_2_0 (allC (G := fun q : Nat × Nat × Bool => GS q.1 q.2.1 q.2.2) s4_0_0 (allC (G := fun q : Nat × Nat × Bool => GS q.1 q.2.1 q.2.2) s5_1_0 (allC (G := fun q : Nat × Nat × Bool => GS q.1 q.2.1 q.2.2) s6_2_0 (allC (G := fun q : Nat × Nat × Bool => GS q.1 q.2.1 q.2.2) s8_0_0 (allC (G := fun q : Nat × Nat × Bool => GS q.1 q.2.1 q.2.2) s9_1_0 (allC (G := fun q : Nat × Nat × Bool => GS q.1 q.2.1 q.2.2) s10_2_0 (allC (G := fun q : Nat × Nat × Bool => GS q.1 q.2.1 q.2.2) s12_0_0 (allC (G := fun q : Nat × Nat × Bool => GS q.1 q.2.1 q.2.2) s13_1_0 (allC (G := fun q : Nat × Nat × Bool => GS q.1 q.2.1 q.2.2) s14_2_0 (allC (G := fun q : Nat × Nat × Bool => GS q.1 q.2.1 q.2.2) s16_0_0 (allC (G := fun q : Nat × Nat × Bool => GS q.1 q.2.1 q.2.2) s17_1_0 (allC (G := fun q : Nat × Nat × Bool => GS q.1 q.2.1 q.2.2) s18_2_0 (allC (G := fun q : Nat × Nat × Bool => GS q.1 q.2.1 q.2.2) s20_0_0 (allC (G := fun q : Nat × Nat × Bool => GS q.1 q.2.1 q.2.2) s21_1_0 (allC (G := fun q : Nat × Nat × Bool => GS q.1 q.2.1 q.2.2) s22_2_0 (allC (G := fun q : Nat × Nat × Bool => GS q.1 q.2.1 q.2.2) s24_0_0 (allC (G := fun q : Nat × Nat × Bool => GS q.1 q.2.1 q.2.2) s25_1_0 (allC (G := fun q : Nat × Nat × Bool => GS q.1 q.2.1 q.2.2) s26_2_0 (allC (G := fun q : Nat × Nat × Bool => GS q.1 q.2.1 q.2.2) s28_0_0 (allC (G := fun q : Nat × Nat × Bool => GS q.1 q.2.1 q.2.2) s29_1_0 (allC (G := fun q : Nat × Nat × Bool => GS q.1 q.2.1 q.2.2) s30_2_0 (allC (G := fun q : Nat × Nat × Bool => GS q.1 q.2.1 q.2.2) s32_0_0 (allC (G := fun q : Nat × Nat × Bool => GS q.1 q.2.1 q.2.2) s33_1_0 (allC (G := fun q : Nat × Nat × Bool => GS q.1 q.2.1 q.2.2) s34_2_0 (allC (G := fun q : Nat × Nat × Bool => GS q.1 q.2.1 q.2.2) s36_0_0 (allC (G := fun q : Nat × Nat × Bool => GS q.1 q.2.1 q.2.2) s37_1_0 (allC (G := fun q : Nat × Nat × Bool => GS q.1 q.2.1 q.2.2) s38_2_0 (allC (G := fun q : Nat × Nat × Bool => GS q.1 q.2.1 q.2.2) s40_0_0 (allC (G := fun q : Nat × Nat × Bool => GS q.1 q.2.1 q.2.2) s41_1_0 (allC (G := fun q : Nat × Nat × Bool => GS q.1 q.2.1 q.2.2) s42_2_0 (allC (G := fun q : Nat × Nat × Bool => GS q.1 q.2.1 q.2.2) s44_0_0 (allC (G := fun q : Nat × Nat × Bool => GS q.1 q.2.1 q.2.2) s45_1_0 (allC (G := fun q : Nat × Nat × Bool => GS q.1 q.2.1 q.2.2) s46_2_0 (allC (G := fun q : Nat × Nat × Bool => GS q.1 q.2.1 q.2.2) s48_0_0 (allC (G := fun q : Nat × Nat × Bool => GS q.1 q.2.1 q.2.2) s49_1_0 (allC (G := fun q : Nat × Nat × Bool => GS q.1 q.2.1 q.2.2) s50_2_0 (allC (G := fun q : Nat × Nat × Bool => GS q.1 q.2.1 q.2.2) s52_0_0 (allC (G := fun q : Nat × Nat × Bool => GS q.1 q.2.1 q.2.2) s53_1_0 (allC (G := fun q : Nat × Nat × Bool => GS q.1 q.2.1 q.2.2) s54_2_0 (allC (G := fun q : Nat × Nat × Bool => GS q.1 q.2.1 q.2.2) s56_0_0 (allC (G := fun q : Nat × Nat × Bool => GS q.1 q.2.1 q.2.2) s57_1_0 (allC (G := fun q : Nat × Nat × Bool => GS q.1 q.2.1 q.2.2) s58_2_0 (allC (G := fun q : Nat × Nat × Bool => GS q.1 q.2.1 q.2.2) s60_0_0 (allNil))))))))))))))))))))))))))))))))))))))))))))))
end Go.Proofs.YtgejhjencodinaaGreatDoor.nt
