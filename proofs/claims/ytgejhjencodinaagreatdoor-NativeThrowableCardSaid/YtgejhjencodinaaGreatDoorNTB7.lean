/-
  What the law NativeThrowable gives: its runs.
-/
import Derived.Test.YtgejhjencodinaaGreatDoorNTA
set_option linter.unusedSectionVars false
set_option linter.unusedVariables false
set_option maxRecDepth 1000000
set_option maxHeartbeats 0
namespace Go.Proofs.YtgejhjencodinaaGreatDoor.nt
open Go.X Go.RowKit Go.X.chars
abbrev cs7 : List (Nat × Nat × Bool) := [(1, 0, true), (2, 1, true), (3, 2, true), (5, 0, true), (6, 1, true), (7, 2, true), (9, 0, true), (10, 1, true), (11, 2, true), (13, 0, true), (14, 1, true), (15, 2, true), (17, 0, true), (18, 1, true), (19, 2, true), (21, 0, true), (22, 1, true), (23, 2, true), (25, 0, true), (26, 1, true), (27, 2, true), (29, 0, true), (30, 1, true), (31, 2, true), (33, 0, true), (34, 1, true), (35, 2, true), (37, 0, true), (38, 1, true), (39, 2, true), (41, 0, true), (42, 1, true), (43, 2, true), (45, 0, true), (46, 1, true), (47, 2, true), (49, 0, true), (50, 1, true), (51, 2, true), (53, 0, true), (54, 1, true), (55, 2, true), (57, 0, true), (58, 1, true), (59, 2, true)]
theorem s1_0_1 : GS 1 0 true := fun p h => (by as_aux_lemma => kernel_rfl)
theorem s2_1_1 : GS 2 1 true := fun p h => (by as_aux_lemma => kernel_rfl)
theorem s3_2_1 : GS 3 2 true := fun p h => (by as_aux_lemma => kernel_rfl)
theorem s5_0_1 : GS 5 0 true := fun p h => (by as_aux_lemma => kernel_rfl)
theorem s6_1_1 : GS 6 1 true := fun p h => (by as_aux_lemma => kernel_rfl)
theorem s7_2_1 : GS 7 2 true := fun p h => (by as_aux_lemma => kernel_rfl)
theorem s9_0_1 : GS 9 0 true := fun p h => (by as_aux_lemma => kernel_rfl)
theorem s10_1_1 : GS 10 1 true := fun p h => (by as_aux_lemma => kernel_rfl)
theorem s11_2_1 : GS 11 2 true := fun p h => (by as_aux_lemma => kernel_rfl)
theorem s13_0_1 : GS 13 0 true := fun p h => (by as_aux_lemma => kernel_rfl)
theorem s14_1_1 : GS 14 1 true := fun p h => (by as_aux_lemma => kernel_rfl)
theorem s15_2_1 : GS 15 2 true := fun p h => (by as_aux_lemma => kernel_rfl)
theorem s17_0_1 : GS 17 0 true := fun p h => (by as_aux_lemma => kernel_rfl)
theorem s18_1_1 : GS 18 1 true := fun p h => (by as_aux_lemma => kernel_rfl)
theorem s19_2_1 : GS 19 2 true := fun p h => (by as_aux_lemma => kernel_rfl)
theorem s21_0_1 : GS 21 0 true := fun p h => (by as_aux_lemma => kernel_rfl)
theorem s22_1_1 : GS 22 1 true := fun p h => (by as_aux_lemma => kernel_rfl)
theorem s23_2_1 : GS 23 2 true := fun p h => (by as_aux_lemma => kernel_rfl)
theorem s25_0_1 : GS 25 0 true := fun p h => (by as_aux_lemma => kernel_rfl)
theorem s26_1_1 : GS 26 1 true := fun p h => (by as_aux_lemma => kernel_rfl)
theorem s27_2_1 : GS 27 2 true := fun p h => (by as_aux_lemma => kernel_rfl)
theorem s29_0_1 : GS 29 0 true := fun p h => (by as_aux_lemma => kernel_rfl)
theorem s30_1_1 : GS 30 1 true := fun p h => (by as_aux_lemma => kernel_rfl)
theorem s31_2_1 : GS 31 2 true := fun p h => (by as_aux_lemma => kernel_rfl)
theorem s33_0_1 : GS 33 0 true := fun p h => (by as_aux_lemma => kernel_rfl)
theorem s34_1_1 : GS 34 1 true := fun p h => (by as_aux_lemma => kernel_rfl)
theorem s35_2_1 : GS 35 2 true := fun p h => (by as_aux_lemma => kernel_rfl)
theorem s37_0_1 : GS 37 0 true := fun p h => (by as_aux_lemma => kernel_rfl)
theorem s38_1_1 : GS 38 1 true := fun p h => (by as_aux_lemma => kernel_rfl)
theorem s39_2_1 : GS 39 2 true := fun p h => (by as_aux_lemma => kernel_rfl)
theorem s41_0_1 : GS 41 0 true := fun p h => (by as_aux_lemma => kernel_rfl)
theorem s42_1_1 : GS 42 1 true := fun p h => (by as_aux_lemma => kernel_rfl)
theorem s43_2_1 : GS 43 2 true := fun p h => (by as_aux_lemma => kernel_rfl)
theorem s45_0_1 : GS 45 0 true := fun p h => (by as_aux_lemma => kernel_rfl)
theorem s46_1_1 : GS 46 1 true := fun p h => (by as_aux_lemma => kernel_rfl)
theorem s47_2_1 : GS 47 2 true := fun p h => (by as_aux_lemma => kernel_rfl)
theorem s49_0_1 : GS 49 0 true := fun p h => (by as_aux_lemma => kernel_rfl)
theorem s50_1_1 : GS 50 1 true := fun p h => (by as_aux_lemma => kernel_rfl)
theorem s51_2_1 : GS 51 2 true := fun p h => (by as_aux_lemma => kernel_rfl)
theorem s53_0_1 : GS 53 0 true := fun p h => (by as_aux_lemma => kernel_rfl)
theorem s54_1_1 : GS 54 1 true := fun p h => (by as_aux_lemma => kernel_rfl)
theorem s55_2_1 : GS 55 2 true := fun p h => (by as_aux_lemma => kernel_rfl)
theorem s57_0_1 : GS 57 0 true := fun p h => (by as_aux_lemma => kernel_rfl)
theorem s58_1_1 : GS 58 1 true := fun p h => (by as_aux_lemma => kernel_rfl)
theorem s59_2_1 : GS 59 2 true := fun p h => (by as_aux_lemma => kernel_rfl)
theorem all7 : ∀ q ∈ cs7, GS q.1 q.2.1 q.2.2 := allC (G := fun q : Nat × Nat × Bool => GS q.1 q.2.1 q.2.2) s1_0_1 (allC (G := fun q : Nat × Nat × Bool => GS q.1 q.2.1 q.2.2) s2_1_1 (allC (G := fun q : Nat × Nat × Bool => GS q.1 q.2.1 q.2.2) s3_2_1 (allC (G := fun q : Nat × Nat × Bool => GS q.1 q.2.1 q.2.2) s5_0_1 (allC (G := fun q : Nat × Nat × Bool => GS q.1 q.2.1 q.2.2) s6_1_1 (allC (G := fun q : Nat × Nat × Bool => GS q.1 q.2.1 q.2.2) s7_2_1 (allC (G := fun q : Nat × Nat × Bool => GS q.1 q.2.1 q.2.2) s9_0_1 (allC (G := fun q : Nat × Nat × Bool => GS q.1 q.2.1 q.2.2) s10_1_1 (allC (G := fun q : Nat × Nat × Bool => GS q.1 q.2.1 q.2.2) s11_2_1 (allC (G := fun q : Nat × Nat × Bool => GS q.1 q.2.1 q.2.2) s13_0_1 (allC (G := fun q : Nat × Nat × Bool => GS q.1 q.2.1 q.2.2) s14_1_1 (allC (G := fun q : Nat × Nat × Bool => GS q.1 q.2.1 q.2.2) s15_2_1 (allC (G := fun q : Nat × Nat × Bool => GS q.1 q.2.1 q.2.2) s17_0_1 (allC (G := fun q : Nat × Nat × Bool => GS q.1 q.2.1 q.2.2) s18_1_1 (allC (G := fun q : Nat × Nat × Bool => GS q.1 q.2.1 q.2.2) s19_2_1 (allC (G := fun q : Nat × Nat × Bool => GS q.1 q.2.1 q.2.2) s21_0_1 (allC (G := fun q : Nat × Nat × Bool => GS q.1 q.2.1 q.2.2) s22_1_1 (allC (G := fun q : Nat × Nat × Bool => GS q.1 q.2.1 q.2.2) s23_2_1 (allC (G := fun q : Nat × Nat × Bool => GS q.1 q.2.1 q.2.2) s25_0_1 (allC (G := fun q : Nat × Nat × Bool => GS q.1 q.2.1 q.2.2) s26_1_1 (allC (G := fun q : Nat × Nat × Bool => GS q.1 q.2.1 q.2.2) s27_2_1 (allC (G := fun q : Nat × Nat × Bool => GS q.1 q.2.1 q.2.2) s29_0_1 (allC (G := fun q : Nat × Nat × Bool => GS q.1 q.2.1 q.2.2) s30_1_1 (allC (G := fun q : Nat × Nat × Bool => GS q.1 q.2.1 q.2.2) s31_2_1 (allC (G := fun q : Nat × Nat × Bool => GS q.1 q.2.1 q.2.2) s33_0_1 (allC (G := fun q : Nat × Nat × Bool => GS q.1 q.2.1 q.2.2) s34_1_1 (allC (G := fun q : Nat × Nat × Bool => GS q.1 q.2.1 q.2.2) s35_2_1 (allC (G := fun q : Nat × Nat × Bool => GS q.1 q.2.1 q.2.2) s37_0_1 (allC (G := fun q : Nat × Nat × Bool => GS q.1 q.2.1 q.2.2) s38_1_1 (allC (G := fun q : Nat × Nat × Bool => GS q.1 q.2.1 q.2.2) s39_2_1 (allC (G := fun q : Nat × Nat × Bool => GS q.1 q.2.1 q.2.2) s41_0_1 (allC (G := fun q : Nat × Nat × Bool => GS q.1 q.2.1 q.2.2) s42_1_1 (allC (G := fun q : Nat × Nat × Bool => GS q.1 q.2.1 q.2.2) s43_2_1 (allC (G := fun q : Nat × Nat × Bool => GS q.1 q.2.1 q.2.2) s45_0_1 (allC (G := fun q : Nat × Nat × Bool => GS q.1 q.2.1 q.2.2) s46_1_1 (allC (G := fun q : Nat × Nat × Bool => GS q.1 q.2.1 q.2.2) s47_2_1 (allC (G := fun q : Nat × Nat × Bool => GS q.1 q.2.1 q.2.2) s49_0_1 (allC (G := fun q : Nat × Nat × Bool => GS q.1 q.2.1 q.2.2) s50_1_1 (allC (G := fun q : Nat × Nat × Bool => GS q.1 q.2.1 q.2.2) s51_2_1 (allC (G := fun q : Nat × Nat × Bool => GS q.1 q.2.1 q.2.2) s53_0_1 (allC (G := fun q : Nat × Nat × Bool => GS q.1 q.2.1 q.2.2) s54_1_1 (allC (G := fun q : Nat × Nat × Bool => GS q.1 q.2.1 q.2.2) s55_2_1 (allC (G := fun q : Nat × Nat × Bool => GS q.1 q.2.1 q.2.2) s57_0_1 (allC (G := fun q : Nat × Nat × Bool => GS q.1 q.2.1 q.2.2) s58_1_1 (allC (G := fun q : Nat × Nat × Bool => GS q.1 q.2.1 q.2.2) s59_2_1 (allNil)))))))))))))))))))))))))))))))))))))))))))))
end Go.Proofs.YtgejhjencodinaaGreatDoor.nt
