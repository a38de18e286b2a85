/-
  Contracts of calls, by the kernel.
-/
import Derived.Test.YtaabcpibfignfaaGreatDoorSONN
import Derived.Test.YtaabcpibfignfaaGreatDoorXN3
import Derived.Test.YtaabcpibfignfaaGreatDoorProg
import Derived.KernelRfl
set_option linter.unusedSectionVars false
set_option linter.unusedVariables false
set_option maxRecDepth 1000000
set_option maxHeartbeats 0
namespace Go.Proofs.YtaabcpibfignfaaGreatDoor.tq
open Go.X Go.RowKit
noncomputable abbrev q0 : Nat × Blk := (23136, (.cells 15 true [] (T.ofList 0 .leaf [z1, tx0, z0, z1, tx0, z0, z1, tx0, z0, z1, tx0, z0, (iN 7), tx8, z0])))
noncomputable abbrev q1 : Nat × Blk := (23137, (.cells 3 true [] (T.ofList 0 .leaf [z1, tx0, z0])))
noncomputable abbrev q2 : Nat × Blk := (17208, (.cells 9 true [] (T.ofList 0 .leaf [(iN 9), tx82, tx64, bT, (iN 8), (iN 5), (.so 14558 0 123 1), .nils, (.so 17203 0 8 4)])))
noncomputable abbrev q3 : Nat × Blk := (18750, (.cells 15 true [] (T.ofList 0 .leaf [z1, tx0, z0, z1, tx0, z0, z1, tx0, z0, z1, tx0, z0, (iN 7), tx8, z0])))
noncomputable abbrev q4 : Nat × Blk := (17261, (.cells 12 false [] (T.ofList 0 .leaf [(pN 7334), (pN 14235), (pN 17208), (uN 73), tx0, z0, (uN 0), (iN 115), (.so 23001 0 5 3), (.sl 23002 0 0 0), (.map 17260), bF])))
noncomputable abbrev q5 : Nat × Blk := (23001, (.cells 15 true [] (T.ofList 0 .leaf [z1, tx0, z0, z1, tx0, z0, z1, tx0, z0, z1, tx0, z0, (iN 7), tx8, z0])))
noncomputable abbrev q6 : Nat × Blk := (22950, (.cells 15 true [] (T.ofList 0 .leaf [z1, tx0, z0, z1, tx0, z0, z1, tx0, z0, z1, tx0, z0, (iN 7), tx8, z0])))
noncomputable abbrev q7 : Nat × Blk := (22952, (.cells 3 true [] (T.ofList 0 .leaf [z1, tx0, z0])))
noncomputable abbrev q8 : Nat × Blk := (22893, (.cells 15 true [] (T.ofList 0 .leaf [z1, tx0, z0, z1, tx0, z0, z1, tx0, z0, z1, tx0, z0, (iN 7), tx8, z0])))
noncomputable abbrev q9 : Nat × Blk := (22896, (.cells 6 true [] (T.ofList 0 .leaf [z1, tx0, z0, z1, tx0, z0])))
noncomputable abbrev q10 : Nat × Blk := (22820, (.cells 15 true [] (T.ofList 0 .leaf [z1, tx0, z0, z1, tx0, z0, z1, tx0, z0, z1, tx0, z0, (iN 7), tx8, z0])))
noncomputable abbrev q11 : Nat × Blk := (22823, (.cells 9 true [] (T.ofList 0 .leaf [z1, tx0, z0, (iN 7), tx8, z0, z1, tx0, z0])))
noncomputable abbrev q12 : Nat × Blk := (22786, (.cells 15 true [] (T.ofList 0 .leaf [z1, tx0, z0, z1, tx0, z0, z1, tx0, z0, z1, tx0, z0, (iN 7), tx8, z0])))
noncomputable abbrev q13 : Nat × Blk := (22789, (.cells 6 true [] (T.ofList 0 .leaf [z1, tx0, z0, (iN 7), tx8, z0])))
noncomputable abbrev q14 : Nat × Blk := (22738, (.cells 15 true [] (T.ofList 0 .leaf [z1, tx0, z0, z1, tx0, z0, z1, tx0, z0, z1, tx0, z0, (iN 7), tx8, z0])))
noncomputable abbrev q15 : Nat × Blk := (22740, (.cells 3 true [] (T.ofList 0 .leaf [z1, tx0, z0])))
noncomputable abbrev q16 : Nat × Blk := (22683, (.cells 15 true [] (T.ofList 0 .leaf [z1, tx0, z0, z1, tx0, z0, z1, tx0, z0, z1, tx0, z0, (iN 7), tx8, z0])))
noncomputable abbrev q17 : Nat × Blk := (22686, (.cells 6 true [] (T.ofList 0 .leaf [z1, tx0, z0, z1, tx0, z0])))
noncomputable abbrev q18 : Nat × Blk := (22643, (.cells 15 true [] (T.ofList 0 .leaf [z1, tx0, z0, z1, tx0, z0, z1, tx0, z0, z1, tx0, z0, (iN 7), tx8, z0])))
noncomputable abbrev q19 : Nat × Blk := (22645, (.cells 3 true [] (T.ofList 0 .leaf [z1, tx0, z0])))
noncomputable abbrev q20 : Nat × Blk := (22572, (.cells 15 true [] (T.ofList 0 .leaf [z1, tx0, z0, z1, tx0, z0, z1, tx0, z0, z1, tx0, z0, (iN 7), tx8, z0])))
noncomputable abbrev q21 : Nat × Blk := (22574, (.cells 6 true [] (T.ofList 0 .leaf [z1, tx0, z0, z1, tx0, z0])))
noncomputable abbrev q22 : Nat × Blk := (22526, (.cells 15 true [] (T.ofList 0 .leaf [z1, tx0, z0, z1, tx0, z0, z1, tx0, z0, z1, tx0, z0, (iN 7), tx8, z0])))
noncomputable abbrev q23 : Nat × Blk := (22529, (.cells 6 true [] (T.ofList 0 .leaf [z1, tx0, z0, z1, tx0, z0])))
noncomputable abbrev q24 : Nat × Blk := (22495, (.cells 15 true [] (T.ofList 0 .leaf [z1, tx0, z0, z1, tx0, z0, z1, tx0, z0, z1, tx0, z0, (iN 7), tx8, z0])))
noncomputable abbrev q25 : Nat × Blk := (22496, (.cells 3 true [] (T.ofList 0 .leaf [z1, tx0, z0])))
noncomputable abbrev q26 : Nat × Blk := (18716, (.cells 15 true [] (T.ofList 0 .leaf [z1, tx0, z0, z1, tx0, z0, z1, tx0, z0, z1, tx0, z0, (iN 7), tx8, z0])))
noncomputable abbrev q27 : Nat × Blk := (22396, (.cells 15 true [] (T.ofList 0 .leaf [z1, tx0, z0, z1, tx0, z0, z1, tx0, z0, z1, tx0, z0, (iN 7), tx8, z0])))
noncomputable abbrev q28 : Nat × Blk := (22398, (.cells 3 true [] (T.ofList 0 .leaf [z1, tx0, z0])))
noncomputable abbrev q29 : Nat × Blk := (22356, (.cells 15 true [] (T.ofList 0 .leaf [z1, tx0, z0, z1, tx0, z0, z1, tx0, z0, z1, tx0, z0, (iN 7), tx8, z0])))
noncomputable abbrev q30 : Nat × Blk := (22313, (.cells 15 true [] (T.ofList 0 .leaf [z1, tx0, z0, z1, tx0, z0, z1, tx0, z0, z1, tx0, z0, (iN 7), tx8, z0])))
noncomputable abbrev q31 : Nat × Blk := (22314, (.cells 3 true [] (T.ofList 0 .leaf [z1, tx0, z0])))
noncomputable abbrev q32 : Nat × Blk := (18682, (.cells 15 true [] (T.ofList 0 .leaf [z1, tx0, z0, z1, tx0, z0, z1, tx0, z0, z1, tx0, z0, (iN 7), tx8, z0])))
noncomputable abbrev q33 : Nat × Blk := (17261, (.cells 12 false [] (T.ofList 0 .leaf [(pN 7334), (pN 14235), (pN 17208), (uN 73), tx0, z0, (uN 0), (iN 87), (.so 18614 0 5 3), .nils, (.map 17260), bF])))
noncomputable abbrev q34 : Nat × Blk := (18614, (.cells 15 true [] (T.ofList 0 .leaf [z1, tx0, z0, z1, tx0, z0, z1, tx0, z0, z1, tx0, z0, (iN 7), tx8, z0])))
noncomputable abbrev q35 : Nat × Blk := (22006, (.cells 15 true [] (T.ofList 0 .leaf [z1, tx0, z0, z1, tx0, z0, z1, tx0, z0, z1, tx0, z0, (iN 7), tx8, z0])))
noncomputable abbrev q36 : Nat × Blk := (22009, (.cells 9 true [] (T.ofList 0 .leaf [(iN 7), tx8, z0, z1, tx0, z0, z1, tx0, z0])))
noncomputable abbrev q37 : Nat × Blk := (21967, (.cells 15 true [] (T.ofList 0 .leaf [z1, tx0, z0, z1, tx0, z0, z1, tx0, z0, z1, tx0, z0, (iN 7), tx8, z0])))
noncomputable abbrev q38 : Nat × Blk := (21970, (.cells 6 true [] (T.ofList 0 .leaf [(iN 7), tx8, z0, z1, tx0, z0])))
noncomputable abbrev q39 : Nat × Blk := (21912, (.cells 15 true [] (T.ofList 0 .leaf [z1, tx0, z0, z1, tx0, z0, z1, tx0, z0, z1, tx0, z0, (iN 7), tx8, z0])))
noncomputable abbrev q40 : Nat × Blk := (21915, (.cells 9 true [] (T.ofList 0 .leaf [(iN 7), tx8, z0, z1, tx0, z0, z1, tx0, z0])))
noncomputable abbrev q41 : Nat × Blk := (21870, (.cells 15 true [] (T.ofList 0 .leaf [z1, tx0, z0, z1, tx0, z0, z1, tx0, z0, z1, tx0, z0, (iN 7), tx8, z0])))
noncomputable abbrev q42 : Nat × Blk := (21873, (.cells 6 true [] (T.ofList 0 .leaf [(iN 7), tx8, z0, z1, tx0, z0])))
noncomputable abbrev q43 : Nat × Blk := (21838, (.cells 15 true [] (T.ofList 0 .leaf [z1, tx0, z0, z1, tx0, z0, z1, tx0, z0, z1, tx0, z0, (iN 7), tx8, z0])))
noncomputable abbrev q44 : Nat × Blk := (21840, (.cells 3 true [] (T.ofList 0 .leaf [(iN 7), tx8, z0])))
noncomputable abbrev q45 : Nat × Blk := (21797, (.cells 15 true [] (T.ofList 0 .leaf [z1, tx0, z0, z1, tx0, z0, z1, tx0, z0, z1, tx0, z0, (iN 7), tx8, z0])))
noncomputable abbrev q46 : Nat × Blk := (21748, (.cells 15 true [] (T.ofList 0 .leaf [z1, tx0, z0, z1, tx0, z0, z1, tx0, z0, z1, tx0, z0, (iN 7), tx8, z0])))
noncomputable abbrev q47 : Nat × Blk := (21750, (.cells 6 true [] (T.ofList 0 .leaf [z1, tx0, z0, (iN 7), tx8, z0])))
noncomputable abbrev q48 : Nat × Blk := (21672, (.cells 15 true [] (T.ofList 0 .leaf [z1, tx0, z0, z1, tx0, z0, z1, tx0, z0, z1, tx0, z0, (iN 7), tx8, z0])))
noncomputable abbrev q49 : Nat × Blk := (21675, (.cells 12 true [] (T.ofList 0 .leaf [z1, tx0, z0, (iN 7), tx8, z0, z1, tx0, z0, z1, tx0, z0])))
noncomputable abbrev q50 : Nat × Blk := (21592, (.cells 15 true [] (T.ofList 0 .leaf [z1, tx0, z0, z1, tx0, z0, z1, tx0, z0, z1, tx0, z0, (iN 7), tx8, z0])))
noncomputable abbrev q51 : Nat × Blk := (21595, (.cells 15 true [] (T.ofList 0 .leaf [z1, tx0, z0, (iN 7), tx8, z0, z1, tx0, z0, (iN 7), tx8, z0, z1, tx0, z0])))
noncomputable abbrev q52 : Nat × Blk := (21534, (.cells 15 true [] (T.ofList 0 .leaf [z1, tx0, z0, z1, tx0, z0, z1, tx0, z0, z1, tx0, z0, (iN 7), tx8, z0])))
noncomputable abbrev q53 : Nat × Blk := (21537, (.cells 18 true [] (T.ofList 0 .leaf [z1, tx0, z0, (iN 7), tx8, z0, z1, tx0, z0, (iN 7), tx8, z0, z1, tx0, z0, z1, tx0, z0])))
noncomputable abbrev q54 : Nat × Blk := (21489, (.cells 15 true [] (T.ofList 0 .leaf [z1, tx0, z0, z1, tx0, z0, z1, tx0, z0, z1, tx0, z0, (iN 7), tx8, z0])))
noncomputable abbrev q55 : Nat × Blk := (21492, (.cells 15 true [] (T.ofList 0 .leaf [z1, tx0, z0, (iN 7), tx8, z0, z1, tx0, z0, (iN 7), tx8, z0, z1, tx0, z0])))
noncomputable abbrev q56 : Nat × Blk := (21453, (.cells 15 true [] (T.ofList 0 .leaf [z1, tx0, z0, z1, tx0, z0, z1, tx0, z0, z1, tx0, z0, (iN 7), tx8, z0])))
noncomputable abbrev q57 : Nat × Blk := (21456, (.cells 12 true [] (T.ofList 0 .leaf [z1, tx0, z0, (iN 7), tx8, z0, z1, tx0, z0, (iN 7), tx8, z0])))
noncomputable abbrev q58 : Nat × Blk := (21409, (.cells 15 true [] (T.ofList 0 .leaf [z1, tx0, z0, z1, tx0, z0, z1, tx0, z0, z1, tx0, z0, (iN 7), tx8, z0])))
noncomputable abbrev q59 : Nat × Blk := (21412, (.cells 9 true [] (T.ofList 0 .leaf [z1, tx0, z0, (iN 7), tx8, z0, z1, tx0, z0])))
noncomputable abbrev q60 : Nat × Blk := (21375, (.cells 15 true [] (T.ofList 0 .leaf [z1, tx0, z0, z1, tx0, z0, z1, tx0, z0, z1, tx0, z0, (iN 7), tx8, z0])))
noncomputable abbrev q61 : Nat × Blk := (21378, (.cells 6 true [] (T.ofList 0 .leaf [z1, tx0, z0, (iN 7), tx8, z0])))
noncomputable abbrev q62 : Nat × Blk := (21333, (.cells 15 true [] (T.ofList 0 .leaf [z1, tx0, z0, z1, tx0, z0, z1, tx0, z0, z1, tx0, z0, (iN 7), tx8, z0])))
noncomputable abbrev q63 : Nat × Blk := (21335, (.cells 3 true [] (T.ofList 0 .leaf [z1, tx0, z0])))
noncomputable abbrev q64 : Nat × Blk := (21261, (.cells 15 true [] (T.ofList 0 .leaf [z1, tx0, z0, z1, tx0, z0, z1, tx0, z0, z1, tx0, z0, (iN 7), tx8, z0])))
noncomputable abbrev q65 : Nat × Blk := (21264, (.cells 6 true [] (T.ofList 0 .leaf [(iN 7), tx8, z0, z1, tx0, z0])))
noncomputable abbrev q66 : Nat × Blk := (21229, (.cells 15 true [] (T.ofList 0 .leaf [z1, tx0, z0, z1, tx0, z0, z1, tx0, z0, z1, tx0, z0, (iN 7), tx8, z0])))
noncomputable abbrev q67 : Nat × Blk := (21231, (.cells 3 true [] (T.ofList 0 .leaf [(iN 7), tx8, z0])))
noncomputable abbrev q68 : Nat × Blk := (21149, (.cells 15 true [] (T.ofList 0 .leaf [z1, tx0, z0, z1, tx0, z0, z1, tx0, z0, z1, tx0, z0, (iN 7), tx8, z0])))
noncomputable abbrev q69 : Nat × Blk := (21151, (.cells 6 true [] (T.ofList 0 .leaf [z1, tx0, z0, z1, tx0, z0])))
noncomputable abbrev q70 : Nat × Blk := (21102, (.cells 15 true [] (T.ofList 0 .leaf [z1, tx0, z0, z1, tx0, z0, z1, tx0, z0, z1, tx0, z0, (iN 7), tx8, z0])))
noncomputable abbrev q71 : Nat × Blk := (21105, (.cells 6 true [] (T.ofList 0 .leaf [z1, tx0, z0, z1, tx0, z0])))
noncomputable abbrev q72 : Nat × Blk := (21024, (.cells 15 true [] (T.ofList 0 .leaf [z1, tx0, z0, z1, tx0, z0, z1, tx0, z0, z1, tx0, z0, (iN 7), tx8, z0])))
noncomputable abbrev q73 : Nat × Blk := (21027, (.cells 9 true [] (T.ofList 0 .leaf [z1, tx0, z0, (iN 7), tx8, z0, z1, tx0, z0])))
noncomputable abbrev q74 : Nat × Blk := (20968, (.cells 15 true [] (T.ofList 0 .leaf [z1, tx0, z0, z1, tx0, z0, z1, tx0, z0, z1, tx0, z0, (iN 7), tx8, z0])))
noncomputable abbrev q75 : Nat × Blk := (20971, (.cells 12 true [] (T.ofList 0 .leaf [z1, tx0, z0, (iN 7), tx8, z0, z1, tx0, z0, z1, tx0, z0])))
noncomputable abbrev q76 : Nat × Blk := (20925, (.cells 15 true [] (T.ofList 0 .leaf [z1, tx0, z0, z1, tx0, z0, z1, tx0, z0, z1, tx0, z0, (iN 7), tx8, z0])))
noncomputable abbrev q77 : Nat × Blk := (20928, (.cells 9 true [] (T.ofList 0 .leaf [z1, tx0, z0, (iN 7), tx8, z0, z1, tx0, z0])))
noncomputable abbrev q78 : Nat × Blk := (20891, (.cells 15 true [] (T.ofList 0 .leaf [z1, tx0, z0, z1, tx0, z0, z1, tx0, z0, z1, tx0, z0, (iN 7), tx8, z0])))
noncomputable abbrev q79 : Nat × Blk := (20894, (.cells 6 true [] (T.ofList 0 .leaf [z1, tx0, z0, (iN 7), tx8, z0])))
noncomputable abbrev q80 : Nat × Blk := (20849, (.cells 15 true [] (T.ofList 0 .leaf [z1, tx0, z0, z1, tx0, z0, z1, tx0, z0, z1, tx0, z0, (iN 7), tx8, z0])))
noncomputable abbrev q81 : Nat × Blk := (20851, (.cells 3 true [] (T.ofList 0 .leaf [z1, tx0, z0])))
noncomputable abbrev q82 : Nat × Blk := (20777, (.cells 15 true [] (T.ofList 0 .leaf [z1, tx0, z0, z1, tx0, z0, z1, tx0, z0, z1, tx0, z0, (iN 7), tx8, z0])))
noncomputable abbrev q83 : Nat × Blk := (20780, (.cells 6 true [] (T.ofList 0 .leaf [(iN 7), tx8, z0, z1, tx0, z0])))
noncomputable abbrev q84 : Nat × Blk := (20745, (.cells 15 true [] (T.ofList 0 .leaf [z1, tx0, z0, z1, tx0, z0, z1, tx0, z0, z1, tx0, z0, (iN 7), tx8, z0])))
noncomputable abbrev q85 : Nat × Blk := (20747, (.cells 3 true [] (T.ofList 0 .leaf [(iN 7), tx8, z0])))
noncomputable abbrev q86 : Nat × Blk := (20665, (.cells 15 true [] (T.ofList 0 .leaf [z1, tx0, z0, z1, tx0, z0, z1, tx0, z0, z1, tx0, z0, (iN 7), tx8, z0])))
noncomputable abbrev q87 : Nat × Blk := (20667, (.cells 6 true [] (T.ofList 0 .leaf [z1, tx0, z0, z1, tx0, z0])))
noncomputable abbrev q88 : Nat × Blk := (20619, (.cells 15 true [] (T.ofList 0 .leaf [z1, tx0, z0, z1, tx0, z0, z1, tx0, z0, z1, tx0, z0, (iN 7), tx8, z0])))
noncomputable abbrev q89 : Nat × Blk := (20622, (.cells 6 true [] (T.ofList 0 .leaf [z1, tx0, z0, z1, tx0, z0])))
noncomputable abbrev q90 : Nat × Blk := (20588, (.cells 15 true [] (T.ofList 0 .leaf [z1, tx0, z0, z1, tx0, z0, z1, tx0, z0, z1, tx0, z0, (iN 7), tx8, z0])))
noncomputable abbrev q91 : Nat × Blk := (20589, (.cells 3 true [] (T.ofList 0 .leaf [z1, tx0, z0])))
noncomputable abbrev q92 : Nat × Blk := (18580, (.cells 15 true [] (T.ofList 0 .leaf [z1, tx0, z0, z1, tx0, z0, z1, tx0, z0, z1, tx0, z0, (iN 7), tx8, z0])))
noncomputable abbrev q93 : Nat × Blk := (20489, (.cells 15 true [] (T.ofList 0 .leaf [z1, tx0, z0, z1, tx0, z0, z1, tx0, z0, z1, tx0, z0, (iN 7), tx8, z0])))
noncomputable abbrev q94 : Nat × Blk := (20491, (.cells 3 true [] (T.ofList 0 .leaf [z1, tx0, z0])))
noncomputable abbrev q95 : Nat × Blk := (20410, (.cells 15 true [] (T.ofList 0 .leaf [z1, tx0, z0, z1, tx0, z0, z1, tx0, z0, z1, tx0, z0, (iN 7), tx8, z0])))
noncomputable abbrev q96 : Nat × Blk := (20412, (.cells 3 true [] (T.ofList 0 .leaf [z1, tx0, z0])))
noncomputable abbrev q97 : Nat × Blk := (20370, (.cells 15 true [] (T.ofList 0 .leaf [z1, tx0, z0, z1, tx0, z0, z1, tx0, z0, z1, tx0, z0, (iN 7), tx8, z0])))
noncomputable abbrev q98 : Nat × Blk := (20371, (.cells 3 true [] (T.ofList 0 .leaf [z1, tx0, z0])))
noncomputable abbrev q99 : Nat × Blk := (18546, (.cells 15 true [] (T.ofList 0 .leaf [z1, tx0, z0, z1, tx0, z0, z1, tx0, z0, z1, tx0, z0, (iN 7), tx8, z0])))
noncomputable abbrev q100 : Nat × Blk := (17261, (.cells 12 false [] (T.ofList 0 .leaf [(pN 7334), (pN 14235), (pN 17208), (uN 73), tx0, z0, (uN 0), (iN 38), (.so 18546 0 5 3), .nils, (.map 17260), bF])))
noncomputable abbrev q101 : Nat × Blk := (17261, (.cells 12 false [] (T.ofList 0 .leaf [(pN 7334), (pN 14235), (pN 17208), (uN 73), tx0, z0, (uN 0), (iN 32), (.so 20197 0 5 3), (.sl 20199 0 0 0), (.map 17260), bF])))
noncomputable abbrev q102 : Nat × Blk := (20197, (.cells 15 true [] (T.ofList 0 .leaf [z1, tx0, z0, z1, tx0, z0, z1, tx0, z0, z1, tx0, z0, (iN 7), tx8, z0])))
noncomputable abbrev q103 : Nat × Blk := (20123, (.cells 15 true [] (T.ofList 0 .leaf [z1, tx0, z0, z1, tx0, z0, z1, tx0, z0, z1, tx0, z0, (iN 7), tx8, z0])))
noncomputable abbrev q104 : Nat × Blk := (20126, (.cells 9 true [] (T.ofList 0 .leaf [(iN 7), tx8, z0, z1, tx0, z0, z1, tx0, z0])))
noncomputable abbrev q105 : Nat × Blk := (20089, (.cells 15 true [] (T.ofList 0 .leaf [z1, tx0, z0, z1, tx0, z0, z1, tx0, z0, z1, tx0, z0, (iN 7), tx8, z0])))
noncomputable abbrev q106 : Nat × Blk := (20092, (.cells 6 true [] (T.ofList 0 .leaf [(iN 7), tx8, z0, z1, tx0, z0])))
noncomputable abbrev q107 : Nat × Blk := (20057, (.cells 15 true [] (T.ofList 0 .leaf [z1, tx0, z0, z1, tx0, z0, z1, tx0, z0, z1, tx0, z0, (iN 7), tx8, z0])))
noncomputable abbrev q108 : Nat × Blk := (20059, (.cells 3 true [] (T.ofList 0 .leaf [(iN 7), tx8, z0])))
noncomputable abbrev q109 : Nat × Blk := (20016, (.cells 15 true [] (T.ofList 0 .leaf [z1, tx0, z0, z1, tx0, z0, z1, tx0, z0, z1, tx0, z0, (iN 7), tx8, z0])))
noncomputable abbrev q110 : Nat × Blk := (19961, (.cells 15 true [] (T.ofList 0 .leaf [z1, tx0, z0, z1, tx0, z0, z1, tx0, z0, z1, tx0, z0, (iN 7), tx8, z0])))
noncomputable abbrev q111 : Nat × Blk := (19963, (.cells 3 true [] (T.ofList 0 .leaf [z1, tx0, z0])))
noncomputable abbrev q112 : Nat × Blk := (19906, (.cells 15 true [] (T.ofList 0 .leaf [z1, tx0, z0, z1, tx0, z0, z1, tx0, z0, z1, tx0, z0, (iN 7), tx8, z0])))
noncomputable abbrev q113 : Nat × Blk := (19909, (.cells 6 true [] (T.ofList 0 .leaf [z1, tx0, z0, z1, tx0, z0])))
noncomputable abbrev q114 : Nat × Blk := (19861, (.cells 15 true [] (T.ofList 0 .leaf [z1, tx0, z0, z1, tx0, z0, z1, tx0, z0, z1, tx0, z0, (iN 7), tx8, z0])))
noncomputable abbrev q115 : Nat × Blk := (19863, (.cells 3 true [] (T.ofList 0 .leaf [z1, tx0, z0])))
noncomputable abbrev q116 : Nat × Blk := (19806, (.cells 15 true [] (T.ofList 0 .leaf [z1, tx0, z0, z1, tx0, z0, z1, tx0, z0, z1, tx0, z0, (iN 7), tx8, z0])))
noncomputable abbrev q117 : Nat × Blk := (19809, (.cells 6 true [] (T.ofList 0 .leaf [z1, tx0, z0, z1, tx0, z0])))
noncomputable abbrev q118 : Nat × Blk := (19759, (.cells 15 true [] (T.ofList 0 .leaf [z1, tx0, z0, z1, tx0, z0, z1, tx0, z0, z1, tx0, z0, (iN 7), tx8, z0])))
noncomputable abbrev q119 : Nat × Blk := (19761, (.cells 3 true [] (T.ofList 0 .leaf [z1, tx0, z0])))
noncomputable abbrev q120 : Nat × Blk := (19704, (.cells 15 true [] (T.ofList 0 .leaf [z1, tx0, z0, z1, tx0, z0, z1, tx0, z0, z1, tx0, z0, (iN 7), tx8, z0])))
noncomputable abbrev q121 : Nat × Blk := (19707, (.cells 6 true [] (T.ofList 0 .leaf [z1, tx0, z0, z1, tx0, z0])))
noncomputable abbrev q122 : Nat × Blk := (19664, (.cells 15 true [] (T.ofList 0 .leaf [z1, tx0, z0, z1, tx0, z0, z1, tx0, z0, z1, tx0, z0, (iN 7), tx8, z0])))
noncomputable abbrev q123 : Nat × Blk := (19666, (.cells 3 true [] (T.ofList 0 .leaf [z1, tx0, z0])))
noncomputable abbrev q124 : Nat × Blk := (19593, (.cells 15 true [] (T.ofList 0 .leaf [z1, tx0, z0, z1, tx0, z0, z1, tx0, z0, z1, tx0, z0, (iN 7), tx8, z0])))
noncomputable abbrev q125 : Nat × Blk := (19595, (.cells 6 true [] (T.ofList 0 .leaf [z1, tx0, z0, z1, tx0, z0])))
noncomputable abbrev q126 : Nat × Blk := (19547, (.cells 15 true [] (T.ofList 0 .leaf [z1, tx0, z0, z1, tx0, z0, z1, tx0, z0, z1, tx0, z0, (iN 7), tx8, z0])))
noncomputable abbrev q127 : Nat × Blk := (19550, (.cells 6 true [] (T.ofList 0 .leaf [z1, tx0, z0, z1, tx0, z0])))
noncomputable abbrev q128 : Nat × Blk := (19516, (.cells 15 true [] (T.ofList 0 .leaf [z1, tx0, z0, z1, tx0, z0, z1, tx0, z0, z1, tx0, z0, (iN 7), tx8, z0])))
noncomputable abbrev q129 : Nat × Blk := (19517, (.cells 3 true [] (T.ofList 0 .leaf [z1, tx0, z0])))
noncomputable abbrev q130 : Nat × Blk := (18512, (.cells 15 true [] (T.ofList 0 .leaf [z1, tx0, z0, z1, tx0, z0, z1, tx0, z0, z1, tx0, z0, (iN 7), tx8, z0])))
noncomputable abbrev q131 : Nat × Blk := (19398, (.cells 15 true [] (T.ofList 0 .leaf [z1, tx0, z0, z1, tx0, z0, z1, tx0, z0, z1, tx0, z0, z0, tx0, z0])))
noncomputable abbrev q132 : Nat × Blk := (19400, (.cells 3 true [] (T.ofList 0 .leaf [(iN 7), tx8, z0])))
noncomputable abbrev q133 : Nat × Blk := (14235, (.cells 8 false [] (T.ofList 0 .leaf [(iN 52), (.sl 14237 0 11 11), (iN 33), tx67, tx5, .nils, .nils, (.so 17208 0 1 9)])))
noncomputable abbrev q134 : Nat × Blk := (14237, (.cells 55 false [z0, tx0, z0, z0, z0] (ofPairs [(5, z1), (6, tx8), (7, z0), (8, z0), (9, z0), (10, (iN 7)), (11, tx0), (12, z0), (13, z1), (14, z0), (15, z1), (16, tx82), (17, z0), (18, z0), (19, z0), (20, z1), (21, tx64), (22, z0), (23, z0), (24, z0), (25, z1), (26, tx77), (27, z0), (28, z0), (29, z0), (30, z1), (31, (.str 4 1701080899)), (32, z0), (33, z0), (34, z0), (35, z1), (36, tx67), (37, z0), (38, z0), (39, z0), (40, (iN 7)), (41, tx0), (42, z0), (43, (iN 7)), (44, z0), (45, z1), (46, tx5), (47, z0), (48, z0), (49, z0), (50, (iN 7)), (51, tx0), (52, z0), (53, (iN 9)), (54, z0)])))
noncomputable abbrev q135 : Nat × Blk := (19344, (.cells 15 true [] (T.ofList 0 .leaf [z1, tx0, z0, z1, tx0, z0, z1, tx0, z0, z1, tx0, z0, z0, tx0, z0])))
noncomputable abbrev q136 : Nat × Blk := (19346, (.cells 3 true [] (T.ofList 0 .leaf [z1, tx0, z0])))
noncomputable abbrev q137 : Nat × Blk := (19312, (.cells 15 true [] (T.ofList 0 .leaf [z1, tx0, z0, z1, tx0, z0, z1, tx0, z0, z1, tx0, z0, z0, tx0, z0])))
noncomputable abbrev q138 : Nat × Blk := (19268, (.cells 15 true [] (T.ofList 0 .leaf [z1, tx0, z0, z1, tx0, z0, z1, tx0, z0, z0, tx0, z0, z0, tx0, z0])))
noncomputable abbrev q139 : Nat × Blk := (19270, (.cells 3 true [] (T.ofList 0 .leaf [z1, tx0, z0])))
noncomputable abbrev q140 : Nat × Blk := (19228, (.cells 15 true [] (T.ofList 0 .leaf [z1, tx0, z0, z1, tx0, z0, z1, tx0, z0, z0, tx0, z0, z0, tx0, z0])))
noncomputable abbrev q141 : Nat × Blk := (19185, (.cells 15 true [] (T.ofList 0 .leaf [z1, tx0, z0, z1, tx0, z0, z0, tx0, z0, z0, tx0, z0, z0, tx0, z0])))
noncomputable abbrev q142 : Nat × Blk := (19186, (.cells 3 true [] (T.ofList 0 .leaf [z1, tx0, z0])))
noncomputable abbrev q143 : Nat × Blk := (17261, (.cells 12 false [] (T.ofList 0 .leaf [(pN 7334), (pN 14235), (pN 17208), (uN 73), tx0, z0, (uN 0), z0, (.so 18457 0 5 3), .nils, (.map 17260), bF])))
noncomputable abbrev q144 : Nat × Blk := (18457, (.cells 15 true [] (T.ofList 0 .leaf [z1, tx0, z0, z1, tx0, z0, z0, tx0, z0, z0, tx0, z0, z0, tx0, z0])))
noncomputable abbrev q145 : Nat × Blk := (14558, (.cells 123 true [] (T.ofList 0 .leaf [(uN 3), (uN 61), (uN 3), (uN 62), (uN 26), (uN 188), (uN 10), (uN 58), (uN 4), (uN 28), (uN 26), (uN 162), (uN 0), (uN 27), (uN 27), (uN 17), (uN 0), (uN 61), (uN 104), (uN 16), (uN 17), (uN 96), (uN 17), (uN 3), (uN 241), (uN 112), (uN 60), (uN 25), (uN 4), (uN 28), (uN 27), (uN 79), (uN 132), (uN 2), (uN 1), (uN 167), (uN 255), (uN 230), (uN 132), (uN 2), (uN 255), (uN 28), (uN 158), (uN 0), (uN 54), (uN 3), (uN 62), (uN 29), (uN 28), (uN 162), (uN 0), (uN 44), (uN 25), (uN 4), (uN 29), (uN 46), (uN 25), (uN 4), (uN 29), (uN 4), (uN 96), (uN 46), (uN 164), (uN 0), (uN 25), (uN 25), (uN 4), (uN 29), (uN 46), (uN 25), (uN 4), (uN 29), (uN 25), (uN 4), (uN 29), (uN 4), (uN 96), (uN 46), (uN 79), (uN 60), (uN 25), (uN 4), (uN 29), (uN 4), (uN 96), (uN 27), (uN 79), (uN 132), (uN 3), (uN 1), (uN 167), (uN 255), (uN 213), (uN 167), (uN 255), (uN 201), (uN 3), (uN 60), (uN 3), (uN 61), (uN 28), (uN 26), (uN 162), (uN 0), (uN 19), (uN 27), (uN 16), (uN 7), (uN 104), (uN 25), (uN 4), (uN 28), (uN 46), (uN 96), (uN 60), (uN 132), (uN 2), (uN 1), (uN 167), (uN 255), (uN 238), (uN 27), (uN 172)])))
noncomputable abbrev q146 : Nat × Blk := (16990, (.cells 15 true [] (T.ofList 0 .leaf [z1, tx0, z0, z1, tx0, z0, z1, tx0, z0, z1, tx0, z0, (iN 7), tx0, z2])))
noncomputable abbrev q147 : Nat × Blk := (17020, (.cells 15 true [] (T.ofList 0 .leaf [z1, tx0, z0, z1, tx0, z0, z1, tx0, z0, z1, tx0, z0, (iN 7), tx0, z2])))
noncomputable abbrev q148 : Nat × Blk := (17050, (.cells 15 true [] (T.ofList 0 .leaf [z1, tx0, z0, z1, tx0, z0, z1, tx0, z0, z1, tx0, z0, (iN 7), tx0, z2])))
noncomputable abbrev q149 : Nat × Blk := (17080, (.cells 15 true [] (T.ofList 0 .leaf [z1, tx0, z0, z1, tx0, z0, z1, tx0, z0, z1, tx0, z0, (iN 7), tx0, z2])))
noncomputable abbrev q150 : Nat × Blk := (17110, (.cells 15 true [] (T.ofList 0 .leaf [z1, tx0, z0, z1, tx0, z0, z1, tx0, z0, z1, tx0, z0, (iN 7), tx0, z2])))
noncomputable abbrev q151 : Nat × Blk := (17140, (.cells 15 true [] (T.ofList 0 .leaf [z1, tx0, z0, z1, tx0, z0, z1, tx0, z0, z1, tx0, z0, (iN 7), tx0, z2])))
noncomputable abbrev q152 : Nat × Blk := (17170, (.cells 15 true [] (T.ofList 0 .leaf [z1, tx0, z0, z1, tx0, z0, z1, tx0, z0, z1, tx0, z0, (iN 7), tx0, z2])))
noncomputable abbrev q153 : Nat × Blk := (17200, (.cells 15 true [] (T.ofList 0 .leaf [z1, tx0, z0, z1, tx0, z0, z1, tx0, z0, z1, tx0, z0, (iN 7), tx0, z2])))
noncomputable abbrev q154 : Nat × Blk := (17203, (.cells 32 true [] (T.ofList 0 .leaf [(iN 255), (iN 9), (.so 16990 0 5 3), .nils, (iN 255), (iN 28), (.so 17020 0 5 3), .nils, (iN 255), (iN 8), (.so 17050 0 5 3), .nils, (iN 255), (iN 39), (.so 17080 0 5 3), .nils, (iN 255), (iN 5), (.so 17110 0 5 3), .nils, (iN 255), z2, (.so 17140 0 5 3), .nils, (iN 255), (iN 3), (.so 17170 0 5 3), .nils, (iN 255), (iN 20), (.so 17200 0 5 3), .nils])))
noncomputable abbrev q155 : Nat × Blk := (18426, (.cells 648 true [] (T.ofList 0 .leaf [z0, z1, (iN 3), bF, z0, z0, .nils, .nils, z1, z1, (iN 61), bF, z2, z0, .nils, .nils, z2, z1, (iN 3), bF, z0, z0, .nils, .nils, (iN 3), z1, (iN 62), bF, (iN 3), z0, .nils, .nils, (iN 4), z1, (iN 26), bF, z0, z0, .nils, .nils, (iN 5), z2, (iN 188), bF, (iN 10), z0, .nils, .nils, (iN 7), z2, (iN 58), bF, (iN 4), z0, .nils, .nils, (iN 9), z1, (iN 28), bF, z2, z0, .nils, .nils, (iN 10), z1, (iN 26), bF, z0, z0, .nils, .nils, (iN 11), (iN 3), (iN 162), bF, (iN 38), z0, .nils, .nils, (iN 14), z1, (iN 27), bF, z1, z0, .nils, .nils, (iN 15), (iN 3), (iN 17), bF, (iN 61), z0, .nils, .nils, (iN 18), z1, (iN 104), bF, z0, z0, .nils, .nils, (iN 19), z2, (iN 16), bF, (iN 17), z0, .nils, .nils, (iN 21), z1, (iN 96), bF, z0, z0, .nils, .nils, (iN 22), (iN 3), (iN 17), bF, (iN 1009), z0, .nils, .nils, (iN 25), z1, (iN 112), bF, z0, z0, .nils, .nils, (iN 26), z1, (iN 60), bF, z1, z0, .nils, .nils, (iN 27), z2, (iN 25), bF, (iN 4), z0, .nils, .nils, (iN 29), z1, (iN 28), bF, z2, z0, .nils, .nils, (iN 30), z1, (iN 27), bF, z1, z0, .nils, .nils, (iN 31), z1, (iN 79), bF, z0, z0, .nils, .nils, (iN 32), (iN 3), (iN 132), bF, z2, z1, .nils, .nils, (iN 35), (iN 3), (iN 167), bF, (iN 9), z0, .nils, .nils, (iN 38), (iN 3), (iN 132), bF, z2, (iN (-1)), .nils, .nils, (iN 41), z1, (iN 28), bF, z2, z0, .nils, .nils, (iN 42), (iN 3), (iN 158), bF, (iN 96), z0, .nils, .nils, (iN 45), z1, (iN 3), bF, z0, z0, .nils, .nils, (iN 46), z1, (iN 62), bF, (iN 3), z0, .nils, .nils, (iN 47), z1, (iN 29), bF, (iN 3), z0, .nils, .nils, (iN 48), z1, (iN 28), bF, z2, z0, .nils, .nils, (iN 49), (iN 3), (iN 162), bF, (iN 93), z0, .nils, .nils, (iN 52), z2, (iN 25), bF, (iN 4), z0, .nils, .nils, (iN 54), z1, (iN 29), bF, (iN 3), z0, .nils, .nils, (iN 55), z1, (iN 46), bF, z0, z0, .nils, .nils, (iN 56), z2, (iN 25), bF, (iN 4), z0, .nils, .nils, (iN 58), z1, (iN 29), bF, (iN 3), z0, .nils, .nils, (iN 59), z1, (iN 4), bF, z1, z0, .nils, .nils, (iN 60), z1, (iN 96), bF, z0, z0, .nils, .nils, (iN 61), z1, (iN 46), bF, z0, z0, .nils, .nils, (iN 62), (iN 3), (iN 164), bF, (iN 87), z0, .nils, .nils, (iN 65), z2, (iN 25), bF, (iN 4), z0, .nils, .nils, (iN 67), z1, (iN 29), bF, (iN 3), z0, .nils, .nils, (iN 68), z1, (iN 46), bF, z0, z0, .nils, .nils, (iN 69), z2, (iN 25), bF, (iN 4), z0, .nils, .nils, (iN 71), z1, (iN 29), bF, (iN 3), z0, .nils, .nils, (iN 72), z2, (iN 25), bF, (iN 4), z0, .nils, .nils, (iN 74), z1, (iN 29), bF, (iN 3), z0, .nils, .nils, (iN 75), z1, (iN 4), bF, z1, z0, .nils, .nils, (iN 76), z1, (iN 96), bF, z0, z0, .nils, .nils, (iN 77), z1, (iN 46), bF, z0, z0, .nils, .nils, (iN 78), z1, (iN 79), bF, z0, z0, .nils, .nils, (iN 79), z1, (iN 60), bF, z1, z0, .nils, .nils, (iN 80), z2, (iN 25), bF, (iN 4), z0, .nils, .nils, (iN 82), z1, (iN 29), bF, (iN 3), z0, .nils, .nils, (iN 83), z1, (iN 4), bF, z1, z0, .nils, .nils, (iN 84), z1, (iN 96), bF, z0, z0, .nils, .nils, (iN 85), z1, (iN 27), bF, z1, z0, .nils, .nils, (iN 86), z1, (iN 79), bF, z0, z0, .nils, .nils, (iN 87), (iN 3), (iN 132), bF, (iN 3), z1, .nils, .nils, (iN 90), (iN 3), (iN 167), bF, (iN 47), z0, .nils, .nils, (iN 93), (iN 3), (iN 167), bF, (iN 38), z0, .nils, .nils, (iN 96), z1, (iN 3), bF, z0, z0, .nils, .nils, (iN 97), z1, (iN 60), bF, z1, z0, .nils, .nils, (iN 98), z1, (iN 3), bF, z0, z0, .nils, .nils, (iN 99), z1, (iN 61), bF, z2, z0, .nils, .nils, (iN 100), z1, (iN 28), bF, z2, z0, .nils, .nils, (iN 101), z1, (iN 26), bF, z0, z0, .nils, .nils, (iN 102), (iN 3), (iN 162), bF, (iN 121), z0, .nils, .nils, (iN 105), z1, (iN 27), bF, z1, z0, .nils, .nils, (iN 106), z2, (iN 16), bF, (iN 7), z0, .nils, .nils, (iN 108), z1, (iN 104), bF, z0, z0, .nils, .nils, (iN 109), z2, (iN 25), bF, (iN 4), z0, .nils, .nils, (iN 111), z1, (iN 28), bF, z2, z0, .nils, .nils, (iN 112), z1, (iN 46), bF, z0, z0, .nils, .nils, (iN 113), z1, (iN 96), bF, z0, z0, .nils, .nils, (iN 114), z1, (iN 60), bF, z1, z0, .nils, .nils, (iN 115), (iN 3), (iN 132), bF, z2, z1, .nils, .nils, (iN 118), (iN 3), (iN 167), bF, (iN 100), z0, .nils, .nils, (iN 121), z1, (iN 27), bF, z1, z0, .nils, .nils, (iN 122), z1, (iN 172), bF, z0, z0, .nils, .nils])))
noncomputable abbrev q156 : Nat × Blk := (16960, (.cells 114 true [] (T.ofList 0 .leaf [(uN 0), (uN 8), (uN 255), (uN 0), (uN 9), (uN 0), (uN 5), (uN 1), (uN 1), (uN 1), (uN 1), (uN 7), (uN 0), (uN 2), (uN 0), (uN 0), (uN 255), (uN 0), (uN 28), (uN 0), (uN 5), (uN 1), (uN 1), (uN 1), (uN 1), (uN 7), (uN 0), (uN 2), (uN 0), (uN 0), (uN 255), (uN 0), (uN 8), (uN 0), (uN 5), (uN 1), (uN 1), (uN 1), (uN 1), (uN 7), (uN 0), (uN 2), (uN 0), (uN 0), (uN 255), (uN 0), (uN 39), (uN 0), (uN 5), (uN 1), (uN 1), (uN 1), (uN 1), (uN 7), (uN 0), (uN 2), (uN 0), (uN 0), (uN 255), (uN 0), (uN 5), (uN 0), (uN 5), (uN 1), (uN 1), (uN 1), (uN 1), (uN 7), (uN 0), (uN 2), (uN 0), (uN 0), (uN 255), (uN 0), (uN 2), (uN 0), (uN 5), (uN 1), (uN 1), (uN 1), (uN 1), (uN 7), (uN 0), (uN 2), (uN 0), (uN 0), (uN 255), (uN 0), (uN 3), (uN 0), (uN 5), (uN 1), (uN 1), (uN 1), (uN 1), (uN 7), (uN 0), (uN 2), (uN 0), (uN 0), (uN 255), (uN 0), (uN 20), (uN 0), (uN 5), (uN 1), (uN 1), (uN 1), (uN 1), (uN 7), (uN 0), (uN 2), (uN 0), (uN 0)])))
noncomputable abbrev q157 : Nat × Blk := (14556, (.cells 8 false [] (T.ofList 0 .leaf [(.sl 14237 0 11 11), (iN 52), (iN 8), (iN 5), (.so 14558 0 123 1), .nils, .nils, (.map 14555)])))
noncomputable abbrev q158 : Nat × Blk := (14233, (.cells 358 true [] (T.ofList 0 .leaf [(uN 0), (uN 11), (uN 1), (uN 0), (uN 2), (uN 91), (uN 73), (uN 7), (uN 0), (uN 1), (uN 1), (uN 0), (uN 2), (uN 103), (uN 111), (uN 1), (uN 0), (uN 5), (uN 40), (uN 73), (uN 73), (uN 41), (uN 73), (uN 1), (uN 0), (uN 13), (uN 83), (uN 116), (uN 97), (uN 99), (uN 107), (uN 77), (uN 97), (uN 112), (uN 84), (uN 97), (uN 98), (uN 108), (uN 101), (uN 1), (uN 0), (uN 4), (uN 67), (uN 111), (uN 100), (uN 101), (uN 1), (uN 0), (uN 1), (uN 77), (uN 7), (uN 0), (uN 7), (uN 1), (uN 0), (uN 16), (uN 106), (uN 97), (uN 118), (uN 97), (uN 47), (uN 108), (uN 97), (uN 110), (uN 103), (uN 47), (uN 79), (uN 98), (uN 106), (uN 101), (uN 99), (uN 116), (uN 7), (uN 0), (uN 9), (uN 0), (uN 33), (uN 0), (uN 8), (uN 0), (uN 10), (uN 0), (uN 0), (uN 0), (uN 0), (uN 0), (uN 1), (uN 0), (uN 9), (uN 0), (uN 3), (uN 0), (uN 4), (uN 0), (uN 1), (uN 0), (uN 6), (uN 0), (uN 0), (uN 0), (uN 255), (uN 0), (uN 8), (uN 0), (uN 5), (uN 0), (uN 0), (uN 0), (uN 123), (uN 3), (uN 61), (uN 3), (uN 62), (uN 26), (uN 188), (uN 10), (uN 58), (uN 4), (uN 28), (uN 26), (uN 162), (uN 0), (uN 27), (uN 27), (uN 17), (uN 0), (uN 61), (uN 104), (uN 16), (uN 17), (uN 96), (uN 17), (uN 3), (uN 241), (uN 112), (uN 60), (uN 25), (uN 4), (uN 28), (uN 27), (uN 79), (uN 132), (uN 2), (uN 1), (uN 167), (uN 255), (uN 230), (uN 132), (uN 2), (uN 255), (uN 28), (uN 158), (uN 0), (uN 54), (uN 3), (uN 62), (uN 29), (uN 28), (uN 162), (uN 0), (uN 44), (uN 25), (uN 4), (uN 29), (uN 46), (uN 25), (uN 4), (uN 29), (uN 4), (uN 96), (uN 46), (uN 164), (uN 0), (uN 25), (uN 25), (uN 4), (uN 29), (uN 46), (uN 25), (uN 4), (uN 29), (uN 25), (uN 4), (uN 29), (uN 4), (uN 96), (uN 46), (uN 79), (uN 60), (uN 25), (uN 4), (uN 29), (uN 4), (uN 96), (uN 27), (uN 79), (uN 132), (uN 3), (uN 1), (uN 167), (uN 255), (uN 213), (uN 167), (uN 255), (uN 201), (uN 3), (uN 60), (uN 3), (uN 61), (uN 28), (uN 26), (uN 162), (uN 0), (uN 19), (uN 27), (uN 16), (uN 7), (uN 104), (uN 25), (uN 4), (uN 28), (uN 46), (uN 96), (uN 60), (uN 132), (uN 2), (uN 1), (uN 167), (uN 255), (uN 238), (uN 27), (uN 172), (uN 0), (uN 0), (uN 0), (uN 1), (uN 0), (uN 5), (uN 0), (uN 0), (uN 0), (uN 114), (uN 0), (uN 8), (uN 255), (uN 0), (uN 9), (uN 0), (uN 5), (uN 1), (uN 1), (uN 1), (uN 1), (uN 7), (uN 0), (uN 2), (uN 0), (uN 0), (uN 255), (uN 0), (uN 28), (uN 0), (uN 5), (uN 1), (uN 1), (uN 1), (uN 1), (uN 7), (uN 0), (uN 2), (uN 0), (uN 0), (uN 255), (uN 0), (uN 8), (uN 0), (uN 5), (uN 1), (uN 1), (uN 1), (uN 1), (uN 7), (uN 0), (uN 2), (uN 0), (uN 0), (uN 255), (uN 0), (uN 39), (uN 0), (uN 5), (uN 1), (uN 1), (uN 1), (uN 1), (uN 7), (uN 0), (uN 2), (uN 0), (uN 0), (uN 255), (uN 0), (uN 5), (uN 0), (uN 5), (uN 1), (uN 1), (uN 1), (uN 1), (uN 7), (uN 0), (uN 2), (uN 0), (uN 0), (uN 255), (uN 0), (uN 2), (uN 0), (uN 5), (uN 1), (uN 1), (uN 1), (uN 1), (uN 7), (uN 0), (uN 2), (uN 0), (uN 0), (uN 255), (uN 0), (uN 3), (uN 0), (uN 5), (uN 1), (uN 1), (uN 1), (uN 1), (uN 7), (uN 0), (uN 2), (uN 0), (uN 0), (uN 255), (uN 0), (uN 20), (uN 0), (uN 5), (uN 1), (uN 1), (uN 1), (uN 1), (uN 7), (uN 0), (uN 2), (uN 0), (uN 0), (uN 0), (uN 0)])))
noncomputable abbrev q159 : Nat × Blk := (14236, (.cells 3 false [] (T.ofList 0 .leaf [(pN 14234), (pN 14235), bF])))
noncomputable abbrev q160 : Nat × Blk := (7333, (.map [(tx2, (pN 7530), 0), (tx29, (pN 7678), 1), (tx30, (pN 7787), 2), (tx18, (pN 7898), 3), (tx31, (pN 8012), 4), (tx32, (pN 8125), 5), (tx26, (pN 8222), 6), (tx39, (pN 8316), 7), (tx16, (pN 8407), 8), (tx41, (pN 8497), 9), (tx21, (pN 8603), 10), (tx33, (pN 8706), 11), (tx19, (pN 8821), 12), (tx4, (pN 8919), 13), (tx14, (pN 9012), 14), (tx34, (pN 9117), 15), (tx10, (pN 9216), 16), (tx22, (pN 9328), 17), (tx27, (pN 9424), 18), (tx40, (pN 9525), 19), (tx38, (pN 9627), 20), (tx28, (pN 9737), 21), (tx5, (pN 9748), 22), (tx13, (pN 9859), 23), (tx7, (pN 9951), 24), (tx11, (pN 10058), 25), (tx6, (pN 10079), 26), (tx3, (pN 10136), 27), (tx17, (pN 10276), 28), (tx51, (pN 10288), 29), (tx12, (pN 10376), 30), (tx20, (pN 10476), 31), (tx45, (pN 10576), 32)] 33))
noncomputable abbrev q161 : Nat × Blk := (7334, (.cells 3 false [] (T.ofList 0 .leaf [(.map 7332), (.map 7333), .nils])))
noncomputable abbrev q162 : Nat × Blk := (7530, (.cells 8 false [] (T.ofList 0 .leaf [(iN 52), .nils, (iN 49), tx2, tx5, .nils, .nils, (.so 7583 0 13 9)])))
noncomputable abbrev q163 : Nat × Blk := (8407, (.cells 8 false [] (T.ofList 0 .leaf [(iN 52), .nils, (iN 33), tx16, tx12, .nils, .nils, (.so 8416 0 2 9)])))
noncomputable abbrev q164 : Nat × Blk := (9748, (.cells 8 false [] (T.ofList 0 .leaf [(iN 52), .nils, (iN 33), tx5, tx0, .nils, .nils, (.so 9760 0 3 9)])))
noncomputable abbrev q165 : Nat × Blk := (9859, (.cells 8 false [] (T.ofList 0 .leaf [(iN 52), .nils, (iN 33), tx13, tx16, .nils, .nils, (.so 9868 0 2 9)])))
noncomputable abbrev q166 : Nat × Blk := (10058, (.cells 8 false [] (T.ofList 0 .leaf [(iN 52), .nils, (iN 33), tx11, tx16, .nils, .nils, (.so 10067 0 2 9)])))
noncomputable abbrev q167 : Nat × Blk := (10376, (.cells 8 false [] (T.ofList 0 .leaf [(iN 52), .nils, (iN 33), tx12, tx5, .nils, (.sl 10390 0 1 1), (.so 10389 0 3 9)])))
noncomputable abbrev q168 : Nat × Blk := (10390, (.cells 4 false [] (T.ofList 0 .leaf [z2, tx78, tx58, z0])))
noncomputable abbrev q169 : Nat × Blk := (6870, (.cells 9 false [] (T.ofList 0 .leaf [(pN 6868), (.so 7188 0 123 1), (.so 6901 0 7 1), (iN 5), (iN 5), (.so 7131 0 8 1), (.so 7176 0 9 2), .nils, (.so 7133 0 8 1)])))
noncomputable abbrev q170 : Nat × Blk := (6901, (.cells 7 true [] (T.ofList 0 .leaf [(uN 1), (uN 1), (uN 1), (uN 1), (uN 7), (uN 0), (uN 2)])))
noncomputable abbrev q171 : Nat × Blk := (7131, (.cells 8 true [] (T.ofList 0 .leaf [(iN 9), (iN 38), (iN 47), (iN 87), (iN 93), (iN 96), (iN 100), (iN 121)])))
noncomputable abbrev q172 : Nat × Blk := (7133, (.cells 8 true [] (T.ofList 0 .leaf [z0, z0, z0, z0, z0, z0, z0, z0])))
noncomputable abbrev q173 : Nat × Blk := (7176, (.cells 18 true [] (T.ofList 0 .leaf [z1, (iN 11), z0, (iN 35), (iN 5), (iN 42), (iN 4), (iN 49), (iN 3), (iN 62), z2, (iN 90), z1, (iN 93), (iN 7), (iN 102), (iN 6), (iN 118)])))
noncomputable abbrev q174 : Nat × Blk := (3256, (.cells 5 false [] (T.ofList 0 .leaf [(pN 3), (.so 6824 0 8 1), (.so 6826 0 3 1), (.so 6823 0 3 3), (.map 3255)])))
noncomputable abbrev q175 : Nat × Blk := (6823, (.cells 9 true [] (T.ofList 0 .leaf [tx2, .nils, (uN 0), tx11, (.so 6725 0 1 1), (uN 0), tx13, (.so 6821 0 1 1), (uN 0)])))
noncomputable abbrev q176 : Nat × Blk := (6824, (.cells 8 true [] (T.ofList 0 .leaf [(.int .u64 0), (.int .u64 0), (.int .u64 1), (.int .u64 0), (.int .u64 0), (.int .u64 2), (.int .u64 0), (.int .u64 0)])))
noncomputable abbrev q177 : Nat × Blk := (6826, (.cells 3 true [] (T.ofList 0 .leaf [z0, z2, (iN 5)])))
noncomputable abbrev q178 : Nat × Blk := (6842, (.map [(z1, z1, 0), ((iN 3), z1, 1), ((iN 6), z1, 2)] 3))
noncomputable abbrev q179 : Nat × Blk := (40, (.cells 4 true [] (T.ofList 0 .leaf [(uN 76), tx5, z0, (uN 0)])))
noncomputable abbrev q180 : Nat × Blk := (5, (.cells 4 true [] (T.ofList 0 .leaf [(uN 90), tx0, z0, (uN 0)])))
noncomputable abbrev q181 : Nat × Blk := (5, (.cells 4 true [] (T.ofList 0 .leaf [(uN 67), tx0, z0, (uN 0)])))
noncomputable abbrev q182 : Nat × Blk := (5, (.cells 4 true [] (T.ofList 0 .leaf [(uN 74), tx0, z0, (uN 0)])))
noncomputable abbrev q183 : Nat × Blk := (5, (.cells 4 true [] (T.ofList 0 .leaf [(uN 73), tx0, z0, (uN 0)])))
noncomputable abbrev q184 : Nat × Blk := (40, (.cells 4 true [] (T.ofList 0 .leaf [(uN 76), tx6, z0, (uN 0)])))
noncomputable abbrev q185 : Nat × Blk := (2, (.map [(tx2, (pN 199), 0), (tx29, (pN 347), 1), (tx30, (pN 456), 2), (tx18, (pN 567), 3), (tx31, (pN 681), 4), (tx32, (pN 794), 5), (tx26, (pN 891), 6), (tx39, (pN 985), 7), (tx16, (pN 1076), 8), (tx41, (pN 1166), 9), (tx21, (pN 1272), 10), (tx33, (pN 1375), 11), (tx19, (pN 1490), 12), (tx4, (pN 1588), 13), (tx14, (pN 1681), 14), (tx34, (pN 1786), 15), (tx10, (pN 1885), 16), (tx22, (pN 1997), 17), (tx27, (pN 2093), 18), (tx40, (pN 2194), 19), (tx38, (pN 2296), 20), (tx28, (pN 2406), 21), (tx5, (pN 2417), 22), (tx13, (pN 2528), 23), (tx7, (pN 2620), 24), (tx11, (pN 2727), 25), (tx6, (pN 2748), 26), (tx3, (pN 2805), 27), (tx17, (pN 2945), 28), (tx51, (pN 2957), 29), (tx12, (pN 3045), 30), (tx20, (pN 3145), 31), (tx45, (pN 3245), 32)] 33))
noncomputable abbrev q186 : Nat × Blk := (3, (.cells 3 false [] (T.ofList 0 .leaf [(.map 1), (.map 2), .nils])))
noncomputable abbrev q187 : Nat × Blk := (199, (.cells 8 false [] (T.ofList 0 .leaf [(iN 52), .nils, (iN 49), tx2, tx5, .nils, .nils, (.so 252 0 13 9)])))
noncomputable abbrev q188 : Nat × Blk := (1076, (.cells 8 false [] (T.ofList 0 .leaf [(iN 52), .nils, (iN 33), tx16, tx12, .nils, .nils, (.so 1085 0 2 9)])))
noncomputable abbrev q189 : Nat × Blk := (2417, (.cells 8 false [] (T.ofList 0 .leaf [(iN 52), .nils, (iN 33), tx5, tx0, .nils, .nils, (.so 2429 0 3 9)])))
noncomputable abbrev q190 : Nat × Blk := (2528, (.cells 8 false [] (T.ofList 0 .leaf [(iN 52), .nils, (iN 33), tx13, tx16, .nils, .nils, (.so 2537 0 2 9)])))
noncomputable abbrev q191 : Nat × Blk := (2727, (.cells 8 false [] (T.ofList 0 .leaf [(iN 52), .nils, (iN 33), tx11, tx16, .nils, .nils, (.so 2736 0 2 9)])))
noncomputable abbrev q192 : Nat × Blk := (3045, (.cells 8 false [] (T.ofList 0 .leaf [(iN 52), .nils, (iN 33), tx12, tx5, .nils, (.sl 3059 0 1 1), (.so 3058 0 3 9)])))
noncomputable abbrev q193 : Nat × Blk := (3059, (.cells 4 false [] (T.ofList 0 .leaf [z2, tx78, tx58, z0])))
theorem mixed : Tryz.prog.follows .mixedOrders = true := by kernel_rfl
variable [Tab]
noncomputable def K_TQ0a : Hand := Hand.none
theorem K_TQ0a_ok : HandOk Tryz.prog K_TQ0a := HandOk.none

noncomputable def I18601 : In := ⟨367, [(pN 17261), (.agg [(iN 121), z1, (iN 27), bF, z1, z0, .nils, .nils])], 23121, [q2, (17261, (.cells 12 false [] (T.ofList 0 .leaf [(pN 7334), (pN 14235), (pN 17208), (uN 73), tx0, z0, (uN 0), (iN 121), (.so 18750 0 5 3), .nils, (.map 17260), bF]))), q3], (.tup []), 23139, [q2, (17261, (.cells 12 false [] (T.ofList 0 .leaf [(pN 7334), (pN 14235), (pN 17208), (uN 73), tx0, z0, (uN 0), (iN 121), (.so 23136 0 5 3), (.so 23137 0 1 3), (.map 17260), bF]))), q3, q0, q1]⟩
theorem I18601_ok : InOk Tryz.prog I18601 := InOk.of_run (K := K_TQ0a) (n := 5000) mixed K_TQ0a_ok (by kernel_rfl) (by as_aux_lemma => kernel_rfl)

noncomputable def I18526 : In := ⟨367, [(pN 17261), (.agg [(iN 114), z1, (iN 60), bF, z1, z0, .nils, .nils])], 22972, [(17261, (.cells 12 false [] (T.ofList 0 .leaf [(pN 7334), (pN 14235), (pN 17208), (uN 73), tx0, z0, (uN 0), (iN 114), (.so 22950 0 5 3), (.so 22952 0 1 3), (.map 17260), bF]))), q6, q7], (.tup []), 23003, [(17261, (.cells 12 false [] (T.ofList 0 .leaf [(pN 7334), (pN 14235), (pN 17208), (uN 73), tx0, z0, (uN 0), (iN 114), (.so 23001 0 5 3), (.sl 23002 0 0 0), (.map 17260), bF]))), q6, q7, q5, (23002, (.cells 0 false [] .leaf))]⟩
theorem I18526_ok : InOk Tryz.prog I18526 := InOk.of_run (K := K_TQ0a) (n := 5000) mixed K_TQ0a_ok (by kernel_rfl) (by as_aux_lemma => kernel_rfl)

noncomputable def I18439 : In := ⟨367, [(pN 17261), (.agg [(iN 111), z1, (iN 28), bF, z2, z0, .nils, .nils])], 22805, [q2, (17261, (.cells 12 false [] (T.ofList 0 .leaf [(pN 7334), (pN 14235), (pN 17208), (uN 73), tx0, z0, (uN 0), (iN 111), (.so 22786 0 5 3), (.so 22789 0 2 3), (.map 17260), bF]))), q12, q13], (.tup []), 22827, [q2, (17261, (.cells 12 false [] (T.ofList 0 .leaf [(pN 7334), (pN 14235), (pN 17208), (uN 73), tx0, z0, (uN 0), (iN 111), (.so 22820 0 5 3), (.so 22823 0 3 3), (.map 17260), bF]))), q12, q13, q10, q11]⟩
theorem I18439_ok : InOk Tryz.prog I18439 := InOk.of_run (K := K_TQ0a) (n := 5000) mixed K_TQ0a_ok (by kernel_rfl) (by as_aux_lemma => kernel_rfl)

noncomputable def I18351 : In := ⟨367, [(pN 17261), (.agg [(iN 105), z1, (iN 27), bF, z1, z0, .nils, .nils])], 22628, [q2, (17261, (.cells 12 false [] (T.ofList 0 .leaf [(pN 7334), (pN 14235), (pN 17208), (uN 73), tx0, z0, (uN 0), (iN 105), (.so 22572 0 5 3), (.sl 22574 0 0 0), (.map 17260), bF]))), q20, q21], (.tup []), 22647, [q2, (17261, (.cells 12 false [] (T.ofList 0 .leaf [(pN 7334), (pN 14235), (pN 17208), (uN 73), tx0, z0, (uN 0), (iN 105), (.so 22643 0 5 3), (.so 22645 0 1 3), (.map 17260), bF]))), q20, q21, q18, q19]⟩
theorem I18351_ok : InOk Tryz.prog I18351 := InOk.of_run (K := K_TQ0a) (n := 5000) mixed K_TQ0a_ok (by kernel_rfl) (by as_aux_lemma => kernel_rfl)

noncomputable def I18283 : In := ⟨367, [(pN 17261), (.agg [(iN 101), z1, (iN 26), bF, z0, z0, .nils, .nils])], 22511, [q2, (17261, (.cells 12 false [] (T.ofList 0 .leaf [(pN 7334), (pN 14235), (pN 17208), (uN 73), tx0, z0, (uN 0), (iN 101), (.so 22495 0 5 3), (.so 22496 0 1 3), (.map 17260), bF]))), q24, q25], (.tup []), 22532, [q2, (17261, (.cells 12 false [] (T.ofList 0 .leaf [(pN 7334), (pN 14235), (pN 17208), (uN 73), tx0, z0, (uN 0), (iN 101), (.so 22526 0 5 3), (.so 22529 0 2 3), (.map 17260), bF]))), q24, q25, q22, q23]⟩
theorem I18283_ok : InOk Tryz.prog I18283 := InOk.of_run (K := K_TQ0a) (n := 5000) mixed K_TQ0a_ok (by kernel_rfl) (by as_aux_lemma => kernel_rfl)

noncomputable def I18263 : In := ⟨367, [(pN 17261), (.agg [(iN 100), z1, (iN 28), bF, z2, z0, .nils, .nils])], 22480, [q2, (17261, (.cells 12 false [] (T.ofList 0 .leaf [(pN 7334), (pN 14235), (pN 17208), (uN 73), tx0, z0, (uN 0), (iN 100), (.so 18716 0 5 3), .nils, (.map 17260), bF]))), q26], (.tup []), 22498, [q2, (17261, (.cells 12 false [] (T.ofList 0 .leaf [(pN 7334), (pN 14235), (pN 17208), (uN 73), tx0, z0, (uN 0), (iN 100), (.so 22495 0 5 3), (.so 22496 0 1 3), (.map 17260), bF]))), q26, q24, q25]⟩
theorem I18263_ok : InOk Tryz.prog I18263 := InOk.of_run (K := K_TQ0a) (n := 5000) mixed K_TQ0a_ok (by kernel_rfl) (by as_aux_lemma => kernel_rfl)

noncomputable def I18212 : In := ⟨367, [(pN 17261), (.agg [(iN 99), z1, (iN 61), bF, z2, z0, .nils, .nils])], 22411, [(17261, (.cells 12 false [] (T.ofList 0 .leaf [(pN 7334), (pN 14235), (pN 17208), (uN 73), tx0, z0, (uN 0), (iN 99), (.so 22396 0 5 3), (.so 22398 0 1 3), (.map 17260), bF]))), q27, q28], (.tup []), 22442, [(17261, (.cells 12 false [] (T.ofList 0 .leaf [(pN 7334), (pN 14235), (pN 17208), (uN 73), tx0, z0, (uN 0), (iN 99), (.so 22440 0 5 3), (.sl 22441 0 0 0), (.map 17260), bF]))), q27, q28, (22440, (.cells 15 true [] (T.ofList 0 .leaf [z1, tx0, z0, z1, tx0, z0, z1, tx0, z0, z1, tx0, z0, (iN 7), tx8, z0]))), (22441, (.cells 0 false [] .leaf))]⟩
theorem I18212_ok : InOk Tryz.prog I18212 := InOk.of_run (K := K_TQ0a) (n := 5000) mixed K_TQ0a_ok (by kernel_rfl) (by as_aux_lemma => kernel_rfl)

noncomputable def I18167 : In := ⟨367, [(pN 17261), (.agg [(iN 97), z1, (iN 60), bF, z1, z0, .nils, .nils])], 22327, [(17261, (.cells 12 false [] (T.ofList 0 .leaf [(pN 7334), (pN 14235), (pN 17208), (uN 73), tx0, z0, (uN 0), (iN 97), (.so 22313 0 5 3), (.so 22314 0 1 3), (.map 17260), bF]))), q30, q31], (.tup []), 22358, [(17261, (.cells 12 false [] (T.ofList 0 .leaf [(pN 7334), (pN 14235), (pN 17208), (uN 73), tx0, z0, (uN 0), (iN 97), (.so 22356 0 5 3), (.sl 22357 0 0 0), (.map 17260), bF]))), q30, q31, q29, (22357, (.cells 0 false [] .leaf))]⟩
theorem I18167_ok : InOk Tryz.prog I18167 := InOk.of_run (K := K_TQ0a) (n := 5000) mixed K_TQ0a_ok (by kernel_rfl) (by as_aux_lemma => kernel_rfl)

noncomputable def I17976 : In := ⟨367, [(pN 17261), (.agg [(iN 85), z1, (iN 27), bF, z1, z0, .nils, .nils])], 21991, [q2, (17261, (.cells 12 false [] (T.ofList 0 .leaf [(pN 7334), (pN 14235), (pN 17208), (uN 73), tx0, z0, (uN 0), (iN 85), (.so 21967 0 5 3), (.so 21970 0 2 3), (.map 17260), bF]))), q37, q38], (.tup []), 22013, [q2, (17261, (.cells 12 false [] (T.ofList 0 .leaf [(pN 7334), (pN 14235), (pN 17208), (uN 73), tx0, z0, (uN 0), (iN 85), (.so 22006 0 5 3), (.so 22009 0 3 3), (.map 17260), bF]))), q37, q38, q35, q36]⟩
theorem I17976_ok : InOk Tryz.prog I17976 := InOk.of_run (K := K_TQ0a) (n := 5000) mixed K_TQ0a_ok (by kernel_rfl) (by as_aux_lemma => kernel_rfl)

noncomputable def I17909 : In := ⟨367, [(pN 17261), (.agg [(iN 82), z1, (iN 29), bF, (iN 3), z0, .nils, .nils])], 21855, [q2, (17261, (.cells 12 false [] (T.ofList 0 .leaf [(pN 7334), (pN 14235), (pN 17208), (uN 73), tx0, z0, (uN 0), (iN 82), (.so 21838 0 5 3), (.so 21840 0 1 3), (.map 17260), bF]))), q43, q44], (.tup []), 21876, [q2, (17261, (.cells 12 false [] (T.ofList 0 .leaf [(pN 7334), (pN 14235), (pN 17208), (uN 73), tx0, z0, (uN 0), (iN 82), (.so 21870 0 5 3), (.so 21873 0 2 3), (.map 17260), bF]))), q43, q44, q41, q42]⟩
theorem I17909_ok : InOk Tryz.prog I17909 := InOk.of_run (K := K_TQ0a) (n := 5000) mixed K_TQ0a_ok (by kernel_rfl) (by as_aux_lemma => kernel_rfl)

noncomputable def I17862 : In := ⟨367, [(pN 17261), (.agg [(iN 79), z1, (iN 60), bF, z1, z0, .nils, .nils])], 21768, [(17261, (.cells 12 false [] (T.ofList 0 .leaf [(pN 7334), (pN 14235), (pN 17208), (uN 73), tx0, z0, (uN 0), (iN 79), (.so 21748 0 5 3), (.sl 21750 0 1 1), (.map 17260), bF]))), q46, q47], (.tup []), 21799, [(17261, (.cells 12 false [] (T.ofList 0 .leaf [(pN 7334), (pN 14235), (pN 17208), (uN 73), tx0, z0, (uN 0), (iN 79), (.so 21797 0 5 3), (.sl 21798 0 0 0), (.map 17260), bF]))), q46, q47, q45, (21798, (.cells 0 false [] .leaf))]⟩
theorem I17862_ok : InOk Tryz.prog I17862 := InOk.of_run (K := K_TQ0a) (n := 5000) mixed K_TQ0a_ok (by kernel_rfl) (by as_aux_lemma => kernel_rfl)

noncomputable def I17716 : In := ⟨367, [(pN 17261), (.agg [(iN 74), z1, (iN 29), bF, (iN 3), z0, .nils, .nils])], 21474, [q2, (17261, (.cells 12 false [] (T.ofList 0 .leaf [(pN 7334), (pN 14235), (pN 17208), (uN 73), tx0, z0, (uN 0), (iN 74), (.so 21453 0 5 3), (.so 21456 0 4 3), (.map 17260), bF]))), q56, q57], (.tup []), 21498, [q2, (17261, (.cells 12 false [] (T.ofList 0 .leaf [(pN 7334), (pN 14235), (pN 17208), (uN 73), tx0, z0, (uN 0), (iN 74), (.so 21489 0 5 3), (.so 21492 0 5 3), (.map 17260), bF]))), q56, q57, q54, q55]⟩
theorem I17716_ok : InOk Tryz.prog I17716 := InOk.of_run (K := K_TQ0a) (n := 5000) mixed K_TQ0a_ok (by kernel_rfl) (by as_aux_lemma => kernel_rfl)

noncomputable def I17675 : In := ⟨367, [(pN 17261), (.agg [(iN 71), z1, (iN 29), bF, (iN 3), z0, .nils, .nils])], 21394, [q2, (17261, (.cells 12 false [] (T.ofList 0 .leaf [(pN 7334), (pN 14235), (pN 17208), (uN 73), tx0, z0, (uN 0), (iN 71), (.so 21375 0 5 3), (.so 21378 0 2 3), (.map 17260), bF]))), q60, q61], (.tup []), 21416, [q2, (17261, (.cells 12 false [] (T.ofList 0 .leaf [(pN 7334), (pN 14235), (pN 17208), (uN 73), tx0, z0, (uN 0), (iN 71), (.so 21409 0 5 3), (.so 21412 0 3 3), (.map 17260), bF]))), q60, q61, q58, q59]⟩
theorem I17675_ok : InOk Tryz.prog I17675 := InOk.of_run (K := K_TQ0a) (n := 5000) mixed K_TQ0a_ok (by kernel_rfl) (by as_aux_lemma => kernel_rfl)

noncomputable def I17595 : In := ⟨367, [(pN 17261), (.agg [(iN 67), z1, (iN 29), bF, (iN 3), z0, .nils, .nils])], 21246, [q2, (17261, (.cells 12 false [] (T.ofList 0 .leaf [(pN 7334), (pN 14235), (pN 17208), (uN 73), tx0, z0, (uN 0), (iN 67), (.so 21229 0 5 3), (.so 21231 0 1 3), (.map 17260), bF]))), q66, q67], (.tup []), 21267, [q2, (17261, (.cells 12 false [] (T.ofList 0 .leaf [(pN 7334), (pN 14235), (pN 17208), (uN 73), tx0, z0, (uN 0), (iN 67), (.so 21261 0 5 3), (.so 21264 0 2 3), (.map 17260), bF]))), q66, q67, q64, q65]⟩
theorem I17595_ok : InOk Tryz.prog I17595 := InOk.of_run (K := K_TQ0a) (n := 5000) mixed K_TQ0a_ok (by kernel_rfl) (by as_aux_lemma => kernel_rfl)

noncomputable def I17420 : In := ⟨367, [(pN 17261), (.agg [(iN 58), z1, (iN 29), bF, (iN 3), z0, .nils, .nils])], 20910, [q2, (17261, (.cells 12 false [] (T.ofList 0 .leaf [(pN 7334), (pN 14235), (pN 17208), (uN 73), tx0, z0, (uN 0), (iN 58), (.so 20891 0 5 3), (.so 20894 0 2 3), (.map 17260), bF]))), q78, q79], (.tup []), 20932, [q2, (17261, (.cells 12 false [] (T.ofList 0 .leaf [(pN 7334), (pN 14235), (pN 17208), (uN 73), tx0, z0, (uN 0), (iN 58), (.so 20925 0 5 3), (.so 20928 0 3 3), (.map 17260), bF]))), q78, q79, q76, q77]⟩
theorem I17420_ok : InOk Tryz.prog I17420 := InOk.of_run (K := K_TQ0a) (n := 5000) mixed K_TQ0a_ok (by kernel_rfl) (by as_aux_lemma => kernel_rfl)

noncomputable def I17340 : In := ⟨367, [(pN 17261), (.agg [(iN 54), z1, (iN 29), bF, (iN 3), z0, .nils, .nils])], 20762, [q2, (17261, (.cells 12 false [] (T.ofList 0 .leaf [(pN 7334), (pN 14235), (pN 17208), (uN 73), tx0, z0, (uN 0), (iN 54), (.so 20745 0 5 3), (.so 20747 0 1 3), (.map 17260), bF]))), q84, q85], (.tup []), 20783, [q2, (17261, (.cells 12 false [] (T.ofList 0 .leaf [(pN 7334), (pN 14235), (pN 17208), (uN 73), tx0, z0, (uN 0), (iN 54), (.so 20777 0 5 3), (.so 20780 0 2 3), (.map 17260), bF]))), q84, q85, q82, q83]⟩
theorem I17340_ok : InOk Tryz.prog I17340 := InOk.of_run (K := K_TQ0a) (n := 5000) mixed K_TQ0a_ok (by kernel_rfl) (by as_aux_lemma => kernel_rfl)

noncomputable def I17251 : In := ⟨367, [(pN 17261), (.agg [(iN 48), z1, (iN 28), bF, z2, z0, .nils, .nils])], 20604, [q2, (17261, (.cells 12 false [] (T.ofList 0 .leaf [(pN 7334), (pN 14235), (pN 17208), (uN 73), tx0, z0, (uN 0), (iN 48), (.so 20588 0 5 3), (.so 20589 0 1 3), (.map 17260), bF]))), q90, q91], (.tup []), 20625, [q2, (17261, (.cells 12 false [] (T.ofList 0 .leaf [(pN 7334), (pN 14235), (pN 17208), (uN 73), tx0, z0, (uN 0), (iN 48), (.so 20619 0 5 3), (.so 20622 0 2 3), (.map 17260), bF]))), q90, q91, q88, q89]⟩
theorem I17251_ok : InOk Tryz.prog I17251 := InOk.of_run (K := K_TQ0a) (n := 5000) mixed K_TQ0a_ok (by kernel_rfl) (by as_aux_lemma => kernel_rfl)

noncomputable def I17231 : In := ⟨367, [(pN 17261), (.agg [(iN 47), z1, (iN 29), bF, (iN 3), z0, .nils, .nils])], 20573, [q2, (17261, (.cells 12 false [] (T.ofList 0 .leaf [(pN 7334), (pN 14235), (pN 17208), (uN 73), tx0, z0, (uN 0), (iN 47), (.so 18580 0 5 3), .nils, (.map 17260), bF]))), q92], (.tup []), 20591, [q2, (17261, (.cells 12 false [] (T.ofList 0 .leaf [(pN 7334), (pN 14235), (pN 17208), (uN 73), tx0, z0, (uN 0), (iN 47), (.so 20588 0 5 3), (.so 20589 0 1 3), (.map 17260), bF]))), q92, q90, q91]⟩
theorem I17231_ok : InOk Tryz.prog I17231 := InOk.of_run (K := K_TQ0a) (n := 5000) mixed K_TQ0a_ok (by kernel_rfl) (by as_aux_lemma => kernel_rfl)

noncomputable def I17180 : In := ⟨367, [(pN 17261), (.agg [(iN 46), z1, (iN 62), bF, (iN 3), z0, .nils, .nils])], 20504, [(17261, (.cells 12 false [] (T.ofList 0 .leaf [(pN 7334), (pN 14235), (pN 17208), (uN 73), tx0, z0, (uN 0), (iN 46), (.so 20489 0 5 3), (.so 20491 0 1 3), (.map 17260), bF]))), q93, q94], (.tup []), 20535, [(17261, (.cells 12 false [] (T.ofList 0 .leaf [(pN 7334), (pN 14235), (pN 17208), (uN 73), tx0, z0, (uN 0), (iN 46), (.so 20533 0 5 3), (.sl 20534 0 0 0), (.map 17260), bF]))), q93, q94, (20533, (.cells 15 true [] (T.ofList 0 .leaf [z1, tx0, z0, z1, tx0, z0, z1, tx0, z0, z1, tx0, z0, (iN 7), tx8, z0]))), (20534, (.cells 0 false [] .leaf))]⟩
theorem I17180_ok : InOk Tryz.prog I17180 := InOk.of_run (K := K_TQ0a) (n := 5000) mixed K_TQ0a_ok (by kernel_rfl) (by as_aux_lemma => kernel_rfl)

noncomputable def I17095 : In := ⟨367, [(pN 17261), (.agg [(iN 41), z1, (iN 28), bF, z2, z0, .nils, .nils])], 20355, [q2, (17261, (.cells 12 false [] (T.ofList 0 .leaf [(pN 7334), (pN 14235), (pN 17208), (uN 73), tx0, z0, (uN 0), (iN 41), (.so 18546 0 5 3), .nils, (.map 17260), bF]))), q99], (.tup []), 20373, [q2, (17261, (.cells 12 false [] (T.ofList 0 .leaf [(pN 7334), (pN 14235), (pN 17208), (uN 73), tx0, z0, (uN 0), (iN 41), (.so 20370 0 5 3), (.so 20371 0 1 3), (.map 17260), bF]))), q99, q97, q98]⟩
theorem I17095_ok : InOk Tryz.prog I17095 := InOk.of_run (K := K_TQ0a) (n := 5000) mixed K_TQ0a_ok (by kernel_rfl) (by as_aux_lemma => kernel_rfl)

noncomputable def I16975 : In := ⟨367, [(pN 17261), (.agg [(iN 30), z1, (iN 27), bF, z1, z0, .nils, .nils])], 20108, [q2, (17261, (.cells 12 false [] (T.ofList 0 .leaf [(pN 7334), (pN 14235), (pN 17208), (uN 73), tx0, z0, (uN 0), (iN 30), (.so 20089 0 5 3), (.so 20092 0 2 3), (.map 17260), bF]))), q105, q106], (.tup []), 20130, [q2, (17261, (.cells 12 false [] (T.ofList 0 .leaf [(pN 7334), (pN 14235), (pN 17208), (uN 73), tx0, z0, (uN 0), (iN 30), (.so 20123 0 5 3), (.so 20126 0 3 3), (.map 17260), bF]))), q105, q106, q103, q104]⟩
theorem I16975_ok : InOk Tryz.prog I16975 := InOk.of_run (K := K_TQ0a) (n := 5000) mixed K_TQ0a_ok (by kernel_rfl) (by as_aux_lemma => kernel_rfl)

noncomputable def I16955 : In := ⟨367, [(pN 17261), (.agg [(iN 29), z1, (iN 28), bF, z2, z0, .nils, .nils])], 20074, [q2, (17261, (.cells 12 false [] (T.ofList 0 .leaf [(pN 7334), (pN 14235), (pN 17208), (uN 73), tx0, z0, (uN 0), (iN 29), (.so 20057 0 5 3), (.so 20059 0 1 3), (.map 17260), bF]))), q107, q108], (.tup []), 20095, [q2, (17261, (.cells 12 false [] (T.ofList 0 .leaf [(pN 7334), (pN 14235), (pN 17208), (uN 73), tx0, z0, (uN 0), (iN 29), (.so 20089 0 5 3), (.so 20092 0 2 3), (.map 17260), bF]))), q107, q108, q105, q106]⟩
theorem I16955_ok : InOk Tryz.prog I16955 := InOk.of_run (K := K_TQ0a) (n := 5000) mixed K_TQ0a_ok (by kernel_rfl) (by as_aux_lemma => kernel_rfl)

noncomputable def I16908 : In := ⟨367, [(pN 17261), (.agg [(iN 26), z1, (iN 60), bF, z1, z0, .nils, .nils])], 19987, [(17261, (.cells 12 false [] (T.ofList 0 .leaf [(pN 7334), (pN 14235), (pN 17208), (uN 73), tx0, z0, (uN 0), (iN 26), (.so 19961 0 5 3), (.so 19963 0 1 3), (.map 17260), bF]))), q110, q111], (.tup []), 20018, [(17261, (.cells 12 false [] (T.ofList 0 .leaf [(pN 7334), (pN 14235), (pN 17208), (uN 73), tx0, z0, (uN 0), (iN 26), (.so 20016 0 5 3), (.sl 20017 0 0 0), (.map 17260), bF]))), q110, q111, q109, (20017, (.cells 0 false [] .leaf))]⟩
theorem I16908_ok : InOk Tryz.prog I16908 := InOk.of_run (K := K_TQ0a) (n := 5000) mixed K_TQ0a_ok (by kernel_rfl) (by as_aux_lemma => kernel_rfl)

noncomputable def I16747 : In := ⟨367, [(pN 17261), (.agg [(iN 14), z1, (iN 27), bF, z1, z0, .nils, .nils])], 19649, [q2, (17261, (.cells 12 false [] (T.ofList 0 .leaf [(pN 7334), (pN 14235), (pN 17208), (uN 73), tx0, z0, (uN 0), (iN 14), (.so 19593 0 5 3), (.sl 19595 0 0 0), (.map 17260), bF]))), q124, q125], (.tup []), 19668, [q2, (17261, (.cells 12 false [] (T.ofList 0 .leaf [(pN 7334), (pN 14235), (pN 17208), (uN 73), tx0, z0, (uN 0), (iN 14), (.so 19664 0 5 3), (.so 19666 0 1 3), (.map 17260), bF]))), q124, q125, q122, q123]⟩
theorem I16747_ok : InOk Tryz.prog I16747 := InOk.of_run (K := K_TQ0a) (n := 5000) mixed K_TQ0a_ok (by kernel_rfl) (by as_aux_lemma => kernel_rfl)

noncomputable def I16679 : In := ⟨367, [(pN 17261), (.agg [(iN 10), z1, (iN 26), bF, z0, z0, .nils, .nils])], 19532, [q2, (17261, (.cells 12 false [] (T.ofList 0 .leaf [(pN 7334), (pN 14235), (pN 17208), (uN 73), tx0, z0, (uN 0), (iN 10), (.so 19516 0 5 3), (.so 19517 0 1 3), (.map 17260), bF]))), q128, q129], (.tup []), 19553, [q2, (17261, (.cells 12 false [] (T.ofList 0 .leaf [(pN 7334), (pN 14235), (pN 17208), (uN 73), tx0, z0, (uN 0), (iN 10), (.so 19547 0 5 3), (.so 19550 0 2 3), (.map 17260), bF]))), q128, q129, q126, q127]⟩
theorem I16679_ok : InOk Tryz.prog I16679 := InOk.of_run (K := K_TQ0a) (n := 5000) mixed K_TQ0a_ok (by kernel_rfl) (by as_aux_lemma => kernel_rfl)

noncomputable def I16659 : In := ⟨367, [(pN 17261), (.agg [(iN 9), z1, (iN 28), bF, z2, z0, .nils, .nils])], 19501, [q2, (17261, (.cells 12 false [] (T.ofList 0 .leaf [(pN 7334), (pN 14235), (pN 17208), (uN 73), tx0, z0, (uN 0), (iN 9), (.so 18512 0 5 3), .nils, (.map 17260), bF]))), q130], (.tup []), 19519, [q2, (17261, (.cells 12 false [] (T.ofList 0 .leaf [(pN 7334), (pN 14235), (pN 17208), (uN 73), tx0, z0, (uN 0), (iN 9), (.so 19516 0 5 3), (.so 19517 0 1 3), (.map 17260), bF]))), q130, q128, q129]⟩
theorem I16659_ok : InOk Tryz.prog I16659 := InOk.of_run (K := K_TQ0a) (n := 5000) mixed K_TQ0a_ok (by kernel_rfl) (by as_aux_lemma => kernel_rfl)

noncomputable def I16559 : In := ⟨367, [(pN 17261), (.agg [(iN 4), z1, (iN 26), bF, z0, z0, .nils, .nils])], 19329, [q2, (17261, (.cells 12 false [] (T.ofList 0 .leaf [(pN 7334), (pN 14235), (pN 17208), (uN 73), tx0, z0, (uN 0), (iN 4), (.so 19312 0 5 3), (.sl 19313 0 0 0), (.map 17260), bF]))), q137, (19313, (.cells 0 false [] .leaf))], (.tup []), 19348, [q2, (17261, (.cells 12 false [] (T.ofList 0 .leaf [(pN 7334), (pN 14235), (pN 17208), (uN 73), tx0, z0, (uN 0), (iN 4), (.so 19344 0 5 3), (.so 19346 0 1 3), (.map 17260), bF]))), q137, (19313, (.cells 0 false [] .leaf)), q135, q136]⟩
theorem I16559_ok : InOk Tryz.prog I16559 := InOk.of_run (K := K_TQ0a) (n := 5000) mixed K_TQ0a_ok (by kernel_rfl) (by as_aux_lemma => kernel_rfl)

noncomputable def I16533 : In := ⟨367, [(pN 17261), (.agg [(iN 3), z1, (iN 62), bF, (iN 3), z0, .nils, .nils])], 19283, [(17261, (.cells 12 false [] (T.ofList 0 .leaf [(pN 7334), (pN 14235), (pN 17208), (uN 73), tx0, z0, (uN 0), (iN 3), (.so 19268 0 5 3), (.so 19270 0 1 3), (.map 17260), bF]))), q138, q139], (.tup []), 19314, [(17261, (.cells 12 false [] (T.ofList 0 .leaf [(pN 7334), (pN 14235), (pN 17208), (uN 73), tx0, z0, (uN 0), (iN 3), (.so 19312 0 5 3), (.sl 19313 0 0 0), (.map 17260), bF]))), q138, q139, q137, (19313, (.cells 0 false [] .leaf))]⟩
theorem I16533_ok : InOk Tryz.prog I16533 := InOk.of_run (K := K_TQ0a) (n := 5000) mixed K_TQ0a_ok (by kernel_rfl) (by as_aux_lemma => kernel_rfl)

noncomputable def I16488 : In := ⟨367, [(pN 17261), (.agg [z1, z1, (iN 61), bF, z2, z0, .nils, .nils])], 19199, [(17261, (.cells 12 false [] (T.ofList 0 .leaf [(pN 7334), (pN 14235), (pN 17208), (uN 73), tx0, z0, (uN 0), z1, (.so 19185 0 5 3), (.so 19186 0 1 3), (.map 17260), bF]))), q141, q142], (.tup []), 19230, [(17261, (.cells 12 false [] (T.ofList 0 .leaf [(pN 7334), (pN 14235), (pN 17208), (uN 73), tx0, z0, (uN 0), z1, (.so 19228 0 5 3), (.sl 19229 0 0 0), (.map 17260), bF]))), q141, q142, q140, (19229, (.cells 0 false [] .leaf))]⟩
theorem I16488_ok : InOk Tryz.prog I16488 := InOk.of_run (K := K_TQ0a) (n := 5000) mixed K_TQ0a_ok (by kernel_rfl) (by as_aux_lemma => kernel_rfl)

noncomputable def I15056 : In := ⟨361, [(.so 16960 0 114 1), (.sl 14237 0 11 11)], 16961, [q134, q156], (.tup [(.so 17203 0 8 4), bT]), 17204, [q134, q156, q146, q147, q148, q149, q150, q151, q152, q153, q154]⟩
theorem I15056_ok : InOk Tryz.prog I15056 := InOk.of_run (K := K_TQ0a) (n := 5000) mixed K_TQ0a_ok (by kernel_rfl) (by as_aux_lemma => kernel_rfl)

noncomputable def S15034 : Sum := ⟨(.tup [(uN 0), bF]), 13, []⟩
theorem S15034_ok : SumOk Tryz.prog 247 [(iN 172)] S15034 := SumOk.of_run (K := K_TQ0a) (n := 5000) (keep := []) mixed K_TQ0a_ok (by kernel_rfl) (by as_aux_lemma => kernel_rfl)

noncomputable def S14834 : Sum := ⟨(.tup [(uN 0), bF]), 13, []⟩
theorem S14834_ok : SumOk Tryz.prog 247 [(iN 164)] S14834 := SumOk.of_run (K := K_TQ0a) (n := 5000) (keep := []) mixed K_TQ0a_ok (by kernel_rfl) (by as_aux_lemma => kernel_rfl)

noncomputable def S14819 : Sum := ⟨(.tup [(uN 0), bF]), 13, []⟩
theorem S14819_ok : SumOk Tryz.prog 247 [(iN 4)] S14819 := SumOk.of_run (K := K_TQ0a) (n := 5000) (keep := []) mixed K_TQ0a_ok (by kernel_rfl) (by as_aux_lemma => kernel_rfl)

noncomputable def S14804 : Sum := ⟨(.tup [(uN 0), bF]), 13, []⟩
theorem S14804_ok : SumOk Tryz.prog 247 [(iN 46)] S14804 := SumOk.of_run (K := K_TQ0a) (n := 5000) (keep := []) mixed K_TQ0a_ok (by kernel_rfl) (by as_aux_lemma => kernel_rfl)

noncomputable def S14764 : Sum := ⟨(.tup [(uN 0), bF]), 13, []⟩
theorem S14764_ok : SumOk Tryz.prog 247 [(iN 158)] S14764 := SumOk.of_run (K := K_TQ0a) (n := 5000) (keep := []) mixed K_TQ0a_ok (by kernel_rfl) (by as_aux_lemma => kernel_rfl)

noncomputable def S14749 : Sum := ⟨(.tup [(uN 0), bF]), 13, []⟩
theorem S14749_ok : SumOk Tryz.prog 247 [(iN 167)] S14749 := SumOk.of_run (K := K_TQ0a) (n := 5000) (keep := []) mixed K_TQ0a_ok (by kernel_rfl) (by as_aux_lemma => kernel_rfl)

noncomputable def S14744 : Sum := ⟨(.tup [(uN 0), bF]), 13, []⟩
theorem S14744_ok : SumOk Tryz.prog 247 [(iN 132)] S14744 := SumOk.of_run (K := K_TQ0a) (n := 5000) (keep := []) mixed K_TQ0a_ok (by kernel_rfl) (by as_aux_lemma => kernel_rfl)

noncomputable def S14739 : Sum := ⟨(.tup [(uN 0), bF]), 13, []⟩
theorem S14739_ok : SumOk Tryz.prog 247 [(iN 79)] S14739 := SumOk.of_run (K := K_TQ0a) (n := 5000) (keep := []) mixed K_TQ0a_ok (by kernel_rfl) (by as_aux_lemma => kernel_rfl)

noncomputable def S14724 : Sum := ⟨(.tup [(uN 65), bF]), 13, []⟩
theorem S14724_ok : SumOk Tryz.prog 247 [(iN 25)] S14724 := SumOk.of_run (K := K_TQ0a) (n := 5000) (keep := []) mixed K_TQ0a_ok (by kernel_rfl) (by as_aux_lemma => kernel_rfl)

noncomputable def S14714 : Sum := ⟨(.tup [(uN 0), bF]), 13, []⟩
theorem S14714_ok : SumOk Tryz.prog 247 [(iN 112)] S14714 := SumOk.of_run (K := K_TQ0a) (n := 5000) (keep := []) mixed K_TQ0a_ok (by kernel_rfl) (by as_aux_lemma => kernel_rfl)

noncomputable def S14704 : Sum := ⟨(.tup [(uN 0), bF]), 13, []⟩
theorem S14704_ok : SumOk Tryz.prog 247 [(iN 96)] S14704 := SumOk.of_run (K := K_TQ0a) (n := 5000) (keep := []) mixed K_TQ0a_ok (by kernel_rfl) (by as_aux_lemma => kernel_rfl)

noncomputable def S14699 : Sum := ⟨(.tup [(uN 0), bF]), 13, []⟩
theorem S14699_ok : SumOk Tryz.prog 247 [(iN 16)] S14699 := SumOk.of_run (K := K_TQ0a) (n := 5000) (keep := []) mixed K_TQ0a_ok (by kernel_rfl) (by as_aux_lemma => kernel_rfl)

noncomputable def S14694 : Sum := ⟨(.tup [(uN 0), bF]), 13, []⟩
theorem S14694_ok : SumOk Tryz.prog 247 [(iN 104)] S14694 := SumOk.of_run (K := K_TQ0a) (n := 5000) (keep := []) mixed K_TQ0a_ok (by kernel_rfl) (by as_aux_lemma => kernel_rfl)

noncomputable def S14689 : Sum := ⟨(.tup [(uN 0), bF]), 13, []⟩
theorem S14689_ok : SumOk Tryz.prog 247 [(iN 17)] S14689 := SumOk.of_run (K := K_TQ0a) (n := 5000) (keep := []) mixed K_TQ0a_ok (by kernel_rfl) (by as_aux_lemma => kernel_rfl)

noncomputable def S14679 : Sum := ⟨(.tup [(uN 0), bF]), 13, []⟩
theorem S14679_ok : SumOk Tryz.prog 247 [(iN 162)] S14679 := SumOk.of_run (K := K_TQ0a) (n := 5000) (keep := []) mixed K_TQ0a_ok (by kernel_rfl) (by as_aux_lemma => kernel_rfl)

noncomputable def S14664 : Sum := ⟨(.tup [(uN 65), bT]), 13, []⟩
theorem S14664_ok : SumOk Tryz.prog 247 [(iN 58)] S14664 := SumOk.of_run (K := K_TQ0a) (n := 5000) (keep := []) mixed K_TQ0a_ok (by kernel_rfl) (by as_aux_lemma => kernel_rfl)

noncomputable def S14659 : Sum := ⟨(.tup [(uN 0), bF]), 13, []⟩
theorem S14659_ok : SumOk Tryz.prog 247 [(iN 188)] S14659 := SumOk.of_run (K := K_TQ0a) (n := 5000) (keep := []) mixed K_TQ0a_ok (by kernel_rfl) (by as_aux_lemma => kernel_rfl)

noncomputable def S14634 : Sum := ⟨(.tup [(uN 0), bF]), 13, []⟩
theorem S14634_ok : SumOk Tryz.prog 247 [(iN 3)] S14634 := SumOk.of_run (K := K_TQ0a) (n := 5000) (keep := []) mixed K_TQ0a_ok (by kernel_rfl) (by as_aux_lemma => kernel_rfl)

noncomputable def S14626 : Sum := ⟨bT, 19, []⟩
theorem S14626_ok : SumOk Tryz.prog 245 [(iN 172)] S14626 := SumOk.of_run (K := K_TQ0a) (n := 5000) (keep := []) mixed K_TQ0a_ok (by kernel_rfl) (by as_aux_lemma => kernel_rfl)

noncomputable def S14409 : Sum := ⟨bT, 18, []⟩
theorem S14409_ok : SumOk Tryz.prog 245 [(iN 164)] S14409 := SumOk.of_run (K := K_TQ0a) (n := 5000) (keep := []) mixed K_TQ0a_ok (by kernel_rfl) (by as_aux_lemma => kernel_rfl)

noncomputable def S14335 : Sum := ⟨bT, 18, []⟩
theorem S14335_ok : SumOk Tryz.prog 245 [(iN 158)] S14335 := SumOk.of_run (K := K_TQ0a) (n := 5000) (keep := []) mixed K_TQ0a_ok (by kernel_rfl) (by as_aux_lemma => kernel_rfl)

noncomputable def S14316 : Sum := ⟨bT, 18, []⟩
theorem S14316_ok : SumOk Tryz.prog 245 [(iN 167)] S14316 := SumOk.of_run (K := K_TQ0a) (n := 5000) (keep := []) mixed K_TQ0a_ok (by kernel_rfl) (by as_aux_lemma => kernel_rfl)

noncomputable def S14308 : Sum := ⟨bT, 15, []⟩
theorem S14308_ok : SumOk Tryz.prog 245 [(iN 132)] S14308 := SumOk.of_run (K := K_TQ0a) (n := 5000) (keep := []) mixed K_TQ0a_ok (by kernel_rfl) (by as_aux_lemma => kernel_rfl)

noncomputable def S14302 : Sum := ⟨bT, 8, []⟩
theorem S14302_ok : SumOk Tryz.prog 245 [(iN 79)] S14302 := SumOk.of_run (K := K_TQ0a) (n := 5000) (keep := []) mixed K_TQ0a_ok (by kernel_rfl) (by as_aux_lemma => kernel_rfl)

noncomputable def S14283 : Sum := ⟨bT, 7, []⟩
theorem S14283_ok : SumOk Tryz.prog 245 [(iN 60)] S14283 := SumOk.of_run (K := K_TQ0a) (n := 5000) (keep := []) mixed K_TQ0a_ok (by kernel_rfl) (by as_aux_lemma => kernel_rfl)

noncomputable def S14277 : Sum := ⟨bT, 13, []⟩
theorem S14277_ok : SumOk Tryz.prog 245 [(iN 112)] S14277 := SumOk.of_run (K := K_TQ0a) (n := 5000) (keep := []) mixed K_TQ0a_ok (by kernel_rfl) (by as_aux_lemma => kernel_rfl)

noncomputable def S14266 : Sum := ⟨bT, 9, []⟩
theorem S14266_ok : SumOk Tryz.prog 245 [(iN 96)] S14266 := SumOk.of_run (K := K_TQ0a) (n := 5000) (keep := []) mixed K_TQ0a_ok (by kernel_rfl) (by as_aux_lemma => kernel_rfl)

noncomputable def S14255 : Sum := ⟨bT, 11, []⟩
theorem S14255_ok : SumOk Tryz.prog 245 [(iN 104)] S14255 := SumOk.of_run (K := K_TQ0a) (n := 5000) (keep := []) mixed K_TQ0a_ok (by kernel_rfl) (by as_aux_lemma => kernel_rfl)

noncomputable def S14239 : Sum := ⟨bT, 18, []⟩
theorem S14239_ok : SumOk Tryz.prog 245 [(iN 162)] S14239 := SumOk.of_run (K := K_TQ0a) (n := 5000) (keep := []) mixed K_TQ0a_ok (by kernel_rfl) (by as_aux_lemma => kernel_rfl)

noncomputable def S14224 : Sum := ⟨bT, 7, []⟩
theorem S14224_ok : SumOk Tryz.prog 245 [(iN 58)] S14224 := SumOk.of_run (K := K_TQ0a) (n := 5000) (keep := []) mixed K_TQ0a_ok (by kernel_rfl) (by as_aux_lemma => kernel_rfl)

noncomputable def S14218 : Sum := ⟨bT, 21, []⟩
theorem S14218_ok : SumOk Tryz.prog 245 [(iN 188)] S14218 := SumOk.of_run (K := K_TQ0a) (n := 5000) (keep := []) mixed K_TQ0a_ok (by kernel_rfl) (by as_aux_lemma => kernel_rfl)

noncomputable def S14210 : Sum := ⟨bT, 7, []⟩
theorem S14210_ok : SumOk Tryz.prog 245 [(iN 62)] S14210 := SumOk.of_run (K := K_TQ0a) (n := 5000) (keep := []) mixed K_TQ0a_ok (by kernel_rfl) (by as_aux_lemma => kernel_rfl)

noncomputable def S14202 : Sum := ⟨bT, 7, []⟩
theorem S14202_ok : SumOk Tryz.prog 245 [(iN 61)] S14202 := SumOk.of_run (K := K_TQ0a) (n := 5000) (keep := []) mixed K_TQ0a_ok (by kernel_rfl) (by as_aux_lemma => kernel_rfl)

noncomputable def S14104 : Sum := ⟨(.tup [(.so 10 0 2 4), (.agg [(uN 73), tx0, z0, (uN 0)]), bT]), 16, [(10, (.cells 8 true [] (T.ofList 0 .leaf [(uN 73), tx0, z0, (uN 0), (uN 73), tx0, z0, (uN 0)])))]⟩
theorem S14104_ok : SumOk Tryz.prog 144 [tx64] S14104 := SumOk.of_run (K := K_TQ0a) (n := 5000) (keep := [10]) mixed K_TQ0a_ok (by kernel_rfl) (by as_aux_lemma => kernel_rfl)

noncomputable def S13868 : Sum := ⟨bT, 5, []⟩
theorem S13868_ok : SumOk Tryz.prog 283 [tx67] S13868 := SumOk.of_run (K := K_TQ0a) (n := 5000) (keep := []) mixed K_TQ0a_ok (by kernel_rfl) (by as_aux_lemma => kernel_rfl)

noncomputable def I7100 : In := ⟨14, [(pN 6870), (iN 9), tx82, tx64, (iN 8)], 7189, [(6868, (.cells 13 false [] (T.ofList 0 .leaf [(.so 6895 0 2 1), (.so 6897 0 2 1), (.so 6899 0 2 1), (iN 3), tx67, tx5, (iN 33), (iN 52), .nils, .nils, z0, .nils, z0]))), q169, (6895, (.cells 2 true [] (T.ofList 0 .leaf [(.str 3 4807541), (.str 3 4807523)]))), (6897, (.cells 2 true [] (T.ofList 0 .leaf [(.so 6884 0 5 1), (.so 6893 0 3 1)]))), (6899, (.cells 2 true [] (T.ofList 0 .leaf [z1, z2]))), q170, q171, q172, q173, (7188, (.cells 123 true [] (T.ofList 0 .leaf [(uN 3), (uN 61), (uN 3), (uN 62), (uN 26), (uN 188), (uN 10), (uN 58), (uN 4), (uN 28), (uN 26), (uN 162), (uN 0), (uN 0), (uN 27), (uN 17), (uN 0), (uN 61), (uN 104), (uN 16), (uN 17), (uN 96), (uN 17), (uN 3), (uN 241), (uN 112), (uN 60), (uN 25), (uN 4), (uN 28), (uN 27), (uN 79), (uN 132), (uN 2), (uN 1), (uN 167), (uN 0), (uN 0), (uN 132), (uN 2), (uN 255), (uN 28), (uN 158), (uN 0), (uN 0), (uN 3), (uN 62), (uN 29), (uN 28), (uN 162), (uN 0), (uN 0), (uN 25), (uN 4), (uN 29), (uN 46), (uN 25), (uN 4), (uN 29), (uN 4), (uN 96), (uN 46), (uN 164), (uN 0), (uN 0), (uN 25), (uN 4), (uN 29), (uN 46), (uN 25), (uN 4), (uN 29), (uN 25), (uN 4), (uN 29), (uN 4), (uN 96), (uN 46), (uN 79), (uN 60), (uN 25), (uN 4), (uN 29), (uN 4), (uN 96), (uN 27), (uN 79), (uN 132), (uN 3), (uN 1), (uN 167), (uN 0), (uN 0), (uN 167), (uN 0), (uN 0), (uN 3), (uN 60), (uN 3), (uN 61), (uN 28), (uN 26), (uN 162), (uN 0), (uN 0), (uN 27), (uN 16), (uN 7), (uN 104), (uN 25), (uN 4), (uN 28), (uN 46), (uN 96), (uN 60), (uN 132), (uN 2), (uN 1), (uN 167), (uN 0), (uN 0), (uN 27), (uN 172)])))], (.tup []), 7331, [(6868, (.cells 13 false [] (T.ofList 0 .leaf [(.so 7320 0 6 1), (.so 7322 0 6 1), (.so 7324 0 6 1), (iN 7), tx67, tx5, (iN 33), (iN 52), .nils, .nils, z0, (.so 7330 0 269 1), z1]))), q169, q170, q171, q172, q173, (7267, (.cells 5 true [] (T.ofList 0 .leaf [(uN 1), (uN 0), (uN 2), (uN 103), (uN 111)]))), (7279, (.cells 8 true [] (T.ofList 0 .leaf [(uN 1), (uN 0), (uN 5), (uN 40), (uN 73), (uN 73), (uN 41), (uN 73)]))), (7301, (.cells 16 true [] (T.ofList 0 .leaf [(uN 1), (uN 0), (uN 13), (uN 83), (uN 116), (uN 97), (uN 99), (uN 107), (uN 77), (uN 97), (uN 112), (uN 84), (uN 97), (uN 98), (uN 108), (uN 101)]))), (7318, (.cells 7 true [] (T.ofList 0 .leaf [(uN 1), (uN 0), (uN 4), (uN 67), (uN 111), (uN 100), (uN 101)]))), (7320, (.cells 6 true [] (T.ofList 0 .leaf [(.str 3 4807541), (.str 3 4807523), (.str 3 7300981), (.str 6 80441672018037), (.str 14 2057110458715878086990115235976053), (.str 5 435476710261)]))), (7322, (.cells 6 true [] (T.ofList 0 .leaf [(.so 6884 0 5 1), (.so 6893 0 3 1), (.so 7267 0 5 1), (.so 7279 0 8 1), (.so 7301 0 16 1), (.so 7318 0 7 1)]))), (7324, (.cells 6 true [] (T.ofList 0 .leaf [z1, z2, (iN 3), (iN 4), (iN 5), (iN 6)]))), (7330, (.cells 269 true [] (T.ofList 0 .leaf [(uN 0), (uN 9), (uN 0), (uN 3), (uN 0), (uN 4), (uN 0), (uN 1), (uN 0), (uN 6), (uN 0), (uN 0), (uN 0), (uN 255), (uN 0), (uN 8), (uN 0), (uN 5), (uN 0), (uN 0), (uN 0), (uN 123), (uN 3), (uN 61), (uN 3), (uN 62), (uN 26), (uN 188), (uN 10), (uN 58), (uN 4), (uN 28), (uN 26), (uN 162), (uN 0), (uN 27), (uN 27), (uN 17), (uN 0), (uN 61), (uN 104), (uN 16), (uN 17), (uN 96), (uN 17), (uN 3), (uN 241), (uN 112), (uN 60), (uN 25), (uN 4), (uN 28), (uN 27), (uN 79), (uN 132), (uN 2), (uN 1), (uN 167), (uN 255), (uN 230), (uN 132), (uN 2), (uN 255), (uN 28), (uN 158), (uN 0), (uN 54), (uN 3), (uN 62), (uN 29), (uN 28), (uN 162), (uN 0), (uN 44), (uN 25), (uN 4), (uN 29), (uN 46), (uN 25), (uN 4), (uN 29), (uN 4), (uN 96), (uN 46), (uN 164), (uN 0), (uN 25), (uN 25), (uN 4), (uN 29), (uN 46), (uN 25), (uN 4), (uN 29), (uN 25), (uN 4), (uN 29), (uN 4), (uN 96), (uN 46), (uN 79), (uN 60), (uN 25), (uN 4), (uN 29), (uN 4), (uN 96), (uN 27), (uN 79), (uN 132), (uN 3), (uN 1), (uN 167), (uN 255), (uN 213), (uN 167), (uN 255), (uN 201), (uN 3), (uN 60), (uN 3), (uN 61), (uN 28), (uN 26), (uN 162), (uN 0), (uN 19), (uN 27), (uN 16), (uN 7), (uN 104), (uN 25), (uN 4), (uN 28), (uN 46), (uN 96), (uN 60), (uN 132), (uN 2), (uN 1), (uN 167), (uN 255), (uN 238), (uN 27), (uN 172), (uN 0), (uN 0), (uN 0), (uN 1), (uN 0), (uN 5), (uN 0), (uN 0), (uN 0), (uN 114), (uN 0), (uN 8), (uN 255), (uN 0), (uN 9), (uN 0), (uN 5), (uN 1), (uN 1), (uN 1), (uN 1), (uN 7), (uN 0), (uN 2), (uN 0), (uN 0), (uN 255), (uN 0), (uN 28), (uN 0), (uN 5), (uN 1), (uN 1), (uN 1), (uN 1), (uN 7), (uN 0), (uN 2), (uN 0), (uN 0), (uN 255), (uN 0), (uN 8), (uN 0), (uN 5), (uN 1), (uN 1), (uN 1), (uN 1), (uN 7), (uN 0), (uN 2), (uN 0), (uN 0), (uN 255), (uN 0), (uN 39), (uN 0), (uN 5), (uN 1), (uN 1), (uN 1), (uN 1), (uN 7), (uN 0), (uN 2), (uN 0), (uN 0), (uN 255), (uN 0), (uN 5), (uN 0), (uN 5), (uN 1), (uN 1), (uN 1), (uN 1), (uN 7), (uN 0), (uN 2), (uN 0), (uN 0), (uN 255), (uN 0), (uN 2), (uN 0), (uN 5), (uN 1), (uN 1), (uN 1), (uN 1), (uN 7), (uN 0), (uN 2), (uN 0), (uN 0), (uN 255), (uN 0), (uN 3), (uN 0), (uN 5), (uN 1), (uN 1), (uN 1), (uN 1), (uN 7), (uN 0), (uN 2), (uN 0), (uN 0), (uN 255), (uN 0), (uN 20), (uN 0), (uN 5), (uN 1), (uN 1), (uN 1), (uN 1), (uN 7), (uN 0), (uN 2), (uN 0), (uN 0)])))]⟩
theorem I7100_ok : InOk Tryz.prog I7100 := InOk.of_run (K := K_TQ0a) (n := 5000) mixed K_TQ0a_ok (by kernel_rfl) (by as_aux_lemma => kernel_rfl)

noncomputable def I6703 : In := ⟨168, [(pN 3256), (.fn (.func 169) [] [(pN 6843)])], 6851, [q174, (6725, (.cells 1 true [] (T.ofList 0 .leaf [(uN 76)]))), (6821, (.cells 1 true [] (T.ofList 0 .leaf [(uN 76)]))), q175, q176, q177, q178, (6843, (.cells 1 false [] (T.ofList 0 .leaf [(.map 6842)])))], (.map 6851), 6859, [(3256, (.cells 5 false [] (T.ofList 0 .leaf [(pN 3), (.so 6824 0 8 1), (.so 6858 0 3 1), (.so 6823 0 3 3), (.map 3255)]))), (6725, (.cells 1 true [] (T.ofList 0 .leaf [(uN 76)]))), (6821, (.cells 1 true [] (T.ofList 0 .leaf [(uN 76)]))), q175, q176, q177, q178, (6843, (.cells 1 false [] (T.ofList 0 .leaf [(.map 6842)]))), (6851, (.map [(z1, z1, 0), ((iN 3), (iN 3), 1), ((iN 6), (iN 6), 2)] 3))]⟩
theorem I6703_ok : InOk Tryz.prog I6703 := InOk.of_run (K := K_TQ0a) (n := 5000) mixed K_TQ0a_ok (by kernel_rfl) (by as_aux_lemma => kernel_rfl)

noncomputable def S5693 : Sum := ⟨(.tup [(.so 5 0 1 4), (.agg [(uN 86), tx0, z0, (uN 0)]), bT]), 6, [q180]⟩
theorem S5693_ok : SumOk Tryz.prog 144 [tx59] S5693 := SumOk.of_run (K := K_TQ0a) (n := 5000) (keep := [5]) mixed K_TQ0a_ok (by kernel_rfl) (by as_aux_lemma => kernel_rfl)

noncomputable def S5664 : Sum := ⟨(.tup [(.so 5 0 1 4), (.agg [(uN 86), tx0, z0, (uN 0)]), bT]), 6, [q181]⟩
theorem S5664_ok : SumOk Tryz.prog 144 [tx60] S5664 := SumOk.of_run (K := K_TQ0a) (n := 5000) (keep := [5]) mixed K_TQ0a_ok (by kernel_rfl) (by as_aux_lemma => kernel_rfl)

noncomputable def S5636 : Sum := ⟨(.tup [(.so 5 0 1 4), (.agg [(uN 86), tx0, z0, (uN 0)]), bT]), 6, [q182]⟩
theorem S5636_ok : SumOk Tryz.prog 144 [tx61] S5636 := SumOk.of_run (K := K_TQ0a) (n := 5000) (keep := [5]) mixed K_TQ0a_ok (by kernel_rfl) (by as_aux_lemma => kernel_rfl)

noncomputable def S5609 : Sum := ⟨(.tup [(.so 5 0 1 4), (.agg [(uN 86), tx0, z0, (uN 0)]), bT]), 6, [q183]⟩
theorem S5609_ok : SumOk Tryz.prog 144 [tx62] S5609 := SumOk.of_run (K := K_TQ0a) (n := 5000) (keep := [5]) mixed K_TQ0a_ok (by kernel_rfl) (by as_aux_lemma => kernel_rfl)

noncomputable def S3898 : Sum := ⟨(.tup [(.so 5 0 1 4), (.agg [(uN 67), tx0, z0, (uN 0)]), bT]), 11, [q183]⟩
theorem S3898_ok : SumOk Tryz.prog 144 [tx71] S3898 := SumOk.of_run (K := K_TQ0a) (n := 5000) (keep := [5]) mixed K_TQ0a_ok (by kernel_rfl) (by as_aux_lemma => kernel_rfl)

noncomputable def S3876 : Sum := ⟨(.tup [.nils, (.agg [(uN 73), tx0, z0, (uN 0)]), bT]), 6, []⟩
theorem S3876_ok : SumOk Tryz.prog 144 [tx68] S3876 := SumOk.of_run (K := K_TQ0a) (n := 5000) (keep := []) mixed K_TQ0a_ok (by kernel_rfl) (by as_aux_lemma => kernel_rfl)

noncomputable def S3679 : Sum := ⟨(iN 22), 33, []⟩
theorem S3679_ok : SumOk Tryz.prog 182 [tx51, tx76, tx42] S3679 := SumOk.of_run (K := K_TQ0a) (n := 5000) (keep := []) mixed K_TQ0a_ok (by kernel_rfl) (by as_aux_lemma => kernel_rfl)

noncomputable def S3198 : Sum := ⟨(iN (-1)), 1, []⟩
theorem S3198_ok : SumOk Tryz.prog 355 [tx69, tx81] S3198 := SumOk.of_run (K := K_TQ0a) (n := 5000) (keep := []) mixed K_TQ0a_ok (by kernel_rfl) (by as_aux_lemma => kernel_rfl)

noncomputable def S3196 : Sum := ⟨(.tup [(.so 12 0 6 1), bT]), 13, [(12, (.cells 6 true [] (T.ofList 0 .leaf [(.int .u16 83), (.int .u16 116), (.int .u16 114), (.int .u16 105), (.int .u16 110), (.int .u16 103)])))]⟩
theorem S3196_ok : SumOk Tryz.prog 184 [tx69] S3196 := SumOk.of_run (K := K_TQ0a) (n := 5000) (keep := [12]) mixed K_TQ0a_ok (by kernel_rfl) (by as_aux_lemma => kernel_rfl)

noncomputable def S3153 : Sum := ⟨(.sl 0 0 3 3), 1, [(0, (.cells 3 false [tx0] (T.ofList 0 .leaf [tx79, tx80, tx69])))]⟩
theorem S3153_ok : SumOk Tryz.prog 410 [tx6, tx83, z0, (iN (-1))] S3153 := SumOk.of_run (K := K_TQ0a) (n := 5000) (keep := [0]) mixed K_TQ0a_ok (by kernel_rfl) (by as_aux_lemma => kernel_rfl)

noncomputable def S3129 : Sum := ⟨(iN 3), 9, []⟩
theorem S3129_ok : SumOk Tryz.prog 182 [tx5, tx57, tx15] S3129 := SumOk.of_run (K := K_TQ0a) (n := 5000) (keep := []) mixed K_TQ0a_ok (by kernel_rfl) (by as_aux_lemma => kernel_rfl)

noncomputable def S3102 : Sum := ⟨(iN (-1)), 1, []⟩
theorem S3102_ok : SumOk Tryz.prog 355 [tx70, tx81] S3102 := SumOk.of_run (K := K_TQ0a) (n := 5000) (keep := []) mixed K_TQ0a_ok (by kernel_rfl) (by as_aux_lemma => kernel_rfl)

noncomputable def S3100 : Sum := ⟨(.tup [(.so 12 0 6 1), bT]), 13, [(12, (.cells 6 true [] (T.ofList 0 .leaf [(.int .u16 79), (.int .u16 98), (.int .u16 106), (.int .u16 101), (.int .u16 99), (.int .u16 116)])))]⟩
theorem S3100_ok : SumOk Tryz.prog 184 [tx70] S3100 := SumOk.of_run (K := K_TQ0a) (n := 5000) (keep := [12]) mixed K_TQ0a_ok (by kernel_rfl) (by as_aux_lemma => kernel_rfl)

noncomputable def S3082 : Sum := ⟨bT, 10, []⟩
theorem S3082_ok : SumOk Tryz.prog 212 [tx80] S3082 := SumOk.of_run (K := K_TQ0a) (n := 5000) (keep := []) mixed K_TQ0a_ok (by kernel_rfl) (by as_aux_lemma => kernel_rfl)

noncomputable def S3065 : Sum := ⟨bT, 10, []⟩
theorem S3065_ok : SumOk Tryz.prog 212 [tx79] S3065 := SumOk.of_run (K := K_TQ0a) (n := 5000) (keep := []) mixed K_TQ0a_ok (by kernel_rfl) (by as_aux_lemma => kernel_rfl)

noncomputable def S3057 : Sum := ⟨(.sl 0 0 3 3), 1, [(0, (.cells 3 false [tx0] (T.ofList 0 .leaf [tx79, tx80, tx70])))]⟩
theorem S3057_ok : SumOk Tryz.prog 410 [tx5, tx83, z0, (iN (-1))] S3057 := SumOk.of_run (K := K_TQ0a) (n := 5000) (keep := [0]) mixed K_TQ0a_ok (by kernel_rfl) (by as_aux_lemma => kernel_rfl)

noncomputable def S3035 : Sum := ⟨z2, 8, []⟩
theorem S3035_ok : SumOk Tryz.prog 182 [tx5, tx63, tx43] S3035 := SumOk.of_run (K := K_TQ0a) (n := 5000) (keep := []) mixed K_TQ0a_ok (by kernel_rfl) (by as_aux_lemma => kernel_rfl)

noncomputable def S2638 : Sum := ⟨(.tup [tx5, (.so 14 0 8 3), bT]), 15, [(14, (.cells 24 true [] (T.ofList 0 .leaf [tx9, tx35, bF, tx46, tx25, bF, tx46, tx47, bF, tx46, tx48, bF, tx46, tx49, bF, tx46, tx50, bF, tx65, tx68, bF, tx57, tx15, bF])))]⟩
theorem S2638_ok : SumOk Tryz.prog 57 [tx3] S2638 := SumOk.of_run (K := K_TQ0a) (n := 5000) (keep := [14]) mixed K_TQ0a_ok (by kernel_rfl) (by as_aux_lemma => kernel_rfl)

noncomputable def S2629 : Sum := ⟨(.tup [tx5, (.so 10 0 10 3), bT]), 11, [(10, (.cells 30 true [] (T.ofList 0 .leaf [tx65, tx68, bF, tx73, tx71, bF, tx74, tx37, bF, tx63, tx43, bF, tx75, tx15, bF, tx57, tx15, bF, tx52, tx53, bT, tx52, tx54, bT, tx52, tx55, bT, tx52, tx56, bT])))]⟩
theorem S2629_ok : SumOk Tryz.prog 57 [tx6] S2629 := SumOk.of_run (K := K_TQ0a) (n := 5000) (keep := [10]) mixed K_TQ0a_ok (by kernel_rfl) (by as_aux_lemma => kernel_rfl)

noncomputable def S461 : Sum := ⟨(.so 28 0 13 3), 29, [(28, (.cells 39 true [] (T.ofList 0 .leaf [tx44, tx1, bF, tx44, tx62, bF, tx44, tx61, bF, tx44, tx60, bF, tx44, tx59, bF, tx44, tx36, bF, tx23, tx1, bF, tx23, tx62, bF, tx23, tx61, bF, tx23, tx60, bF, tx23, tx59, bF, tx23, tx36, bF, tx23, tx35, bF])))]⟩
theorem S461_ok : SumOk Tryz.prog 94 [tx2] S461 := SumOk.of_run (K := K_TQ0a) (n := 5000) (keep := [28]) mixed K_TQ0a_ok (by kernel_rfl) (by as_aux_lemma => kernel_rfl)

noncomputable def I92 : In := ⟨92, [(.so 163 0 33 1), z0, (iN 33), (iN 6)], 164, [(163, (.cells 33 true [] (T.ofList 0 .leaf [tx5, tx6, tx3, tx51, tx2, tx12, tx41, tx16, tx7, tx14, tx39, tx20, tx27, tx26, tx4, tx10, tx45, tx40, tx38, tx33, tx29, tx34, tx21, tx11, tx13, tx30, tx28, tx18, tx22, tx32, tx31, tx19, tx17])))], (.tup []), 168, [(163, (.cells 33 true [] (T.ofList 0 .leaf [tx2, tx29, tx30, tx18, tx31, tx32, tx26, tx39, tx16, tx41, tx21, tx33, tx19, tx4, tx14, tx34, tx10, tx22, tx27, tx40, tx38, tx28, tx5, tx13, tx7, tx11, tx6, tx3, tx17, tx51, tx12, tx20, tx45])))]⟩
theorem I92_ok : InOk Tryz.prog I92 := InOk.of_run (K := K_TQ0a) (n := 5000) mixed K_TQ0a_ok (by kernel_rfl) (by as_aux_lemma => kernel_rfl)

noncomputable def S8 : Sum := ⟨(.so 75 0 28 2), 76, [(75, (.cells 56 true [] (T.ofList 0 .leaf [tx12, tx5, tx41, tx12, tx16, tx12, tx7, tx41, tx14, tx7, tx39, tx10, tx20, tx10, tx27, tx10, tx26, tx10, tx4, tx10, tx10, tx16, tx45, tx10, tx40, tx4, tx38, tx4, tx33, tx4, tx29, tx4, tx34, tx4, tx21, tx10, tx11, tx16, tx13, tx16, tx30, tx7, tx28, tx7, tx18, tx14, tx22, tx7, tx32, tx7, tx31, tx7, tx19, tx7, tx17, tx14])))]⟩
theorem S8_ok : SumOk Tryz.prog 55 [] S8 := SumOk.of_run (K := K_TQ0a) (n := 5000) (keep := [75]) mixed K_TQ0a_ok (by kernel_rfl) (by as_aux_lemma => kernel_rfl)

noncomputable def tab_TQ0a : List (FuncId × SRows) := (55, [([], S8)]) :: (94, [([tx2], S461)]) :: (57, [([tx3], S2638), ([tx6], S2629)]) :: (212, [([tx80], S3082), ([tx79], S3065)]) :: (410, [([tx6, tx83, z0, (iN (-1))], S3153), ([tx5, tx83, z0, (iN (-1))], S3057)]) :: (184, [([tx69], S3196), ([tx70], S3100)]) :: (355, [([tx69, tx81], S3198), ([tx70, tx81], S3102)]) :: (182, [([tx51, tx76, tx42], S3679), ([tx5, tx57, tx15], S3129), ([tx5, tx63, tx43], S3035)]) :: (283, [([tx67], S13868)]) :: (144, [([tx64], S14104), ([tx59], S5693), ([tx60], S5664), ([tx61], S5636), ([tx62], S5609), ([tx71], S3898), ([tx68], S3876)]) :: (245, [([(iN 172)], S14626), ([(iN 164)], S14409), ([(iN 158)], S14335), ([(iN 167)], S14316), ([(iN 132)], S14308), ([(iN 79)], S14302), ([(iN 60)], S14283), ([(iN 112)], S14277), ([(iN 96)], S14266), ([(iN 104)], S14255), ([(iN 162)], S14239), ([(iN 58)], S14224), ([(iN 188)], S14218), ([(iN 62)], S14210), ([(iN 61)], S14202)]) :: (247, [([(iN 172)], S15034), ([(iN 164)], S14834), ([(iN 4)], S14819), ([(iN 46)], S14804), ([(iN 158)], S14764), ([(iN 167)], S14749), ([(iN 132)], S14744), ([(iN 79)], S14739), ([(iN 25)], S14724), ([(iN 112)], S14714), ([(iN 96)], S14704), ([(iN 16)], S14699), ([(iN 104)], S14694), ([(iN 17)], S14689), ([(iN 162)], S14679), ([(iN 58)], S14664), ([(iN 188)], S14659), ([(iN 3)], S14634)]) :: []
theorem tab_TQ0a_ok : TabOk Tryz.prog tab_TQ0a := (TabOk.cons (RowsOk.cons S8_ok RowsOk.nil) (TabOk.cons (RowsOk.cons S461_ok RowsOk.nil) (TabOk.cons (RowsOk.cons S2638_ok (RowsOk.cons S2629_ok RowsOk.nil)) (TabOk.cons (RowsOk.cons S3082_ok (RowsOk.cons S3065_ok RowsOk.nil)) (TabOk.cons (RowsOk.cons S3153_ok (RowsOk.cons S3057_ok RowsOk.nil)) (TabOk.cons (RowsOk.cons S3196_ok (RowsOk.cons S3100_ok RowsOk.nil)) (TabOk.cons (RowsOk.cons S3198_ok (RowsOk.cons S3102_ok RowsOk.nil)) (TabOk.cons (RowsOk.cons S3679_ok (RowsOk.cons S3129_ok (RowsOk.cons S3035_ok RowsOk.nil))) (TabOk.cons (RowsOk.cons S13868_ok RowsOk.nil) (TabOk.cons (RowsOk.cons S14104_ok (RowsOk.cons S5693_ok (RowsOk.cons S5664_ok (RowsOk.cons S5636_ok (RowsOk.cons S5609_ok (RowsOk.cons S3898_ok (RowsOk.cons S3876_ok RowsOk.nil))))))) (TabOk.cons (RowsOk.cons S14626_ok (RowsOk.cons S14409_ok (RowsOk.cons S14335_ok (RowsOk.cons S14316_ok (RowsOk.cons S14308_ok (RowsOk.cons S14302_ok (RowsOk.cons S14283_ok (RowsOk.cons S14277_ok (RowsOk.cons S14266_ok (RowsOk.cons S14255_ok (RowsOk.cons S14239_ok (RowsOk.cons S14224_ok (RowsOk.cons S14218_ok (RowsOk.cons S14210_ok (RowsOk.cons S14202_ok RowsOk.nil))))))))))))))) (TabOk.cons (RowsOk.cons S15034_ok (RowsOk.cons S14834_ok (RowsOk.cons S14819_ok (RowsOk.cons S14804_ok (RowsOk.cons S14764_ok (RowsOk.cons S14749_ok (RowsOk.cons S14744_ok (RowsOk.cons S14739_ok (RowsOk.cons S14724_ok (RowsOk.cons S14714_ok (RowsOk.cons S14704_ok (RowsOk.cons S14699_ok (RowsOk.cons S14694_ok (RowsOk.cons S14689_ok (RowsOk.cons S14679_ok (RowsOk.cons S14664_ok (RowsOk.cons S14659_ok (RowsOk.cons S14634_ok RowsOk.nil)))))))))))))))))) TabOk.nil))))))))))))
noncomputable def H_TQ0a : Hand := (((Hand.at 92 (inHand I92)).or ((Hand.at 168 (inHand I6703)).or ((Hand.at 14 (inHand I7100)).or ((Hand.at 361 (inHand I15056)).or (Hand.at 367 (Hand.sp 20910 (Hand.sp 20074 (Hand.sp 19501 (Hand.sp 19283 (inHand I16488) ((inHand I16559).or (inHand I16533))) (Hand.sp 19649 ((inHand I16679).or (inHand I16659)) ((inHand I16908).or (inHand I16747)))) (Hand.sp 20504 (Hand.sp 20108 (inHand I16955) ((inHand I17095).or (inHand I16975))) (Hand.sp 20604 ((inHand I17231).or (inHand I17180)) ((inHand I17340).or (inHand I17251))))) (Hand.sp 22327 (Hand.sp 21474 (Hand.sp 21246 (inHand I17420) ((inHand I17675).or (inHand I17595))) (Hand.sp 21855 ((inHand I17862).or (inHand I17716)) ((inHand I17976).or (inHand I17909)))) (Hand.sp 22628 (Hand.sp 22480 ((inHand I18212).or (inHand I18167)) ((inHand I18283).or (inHand I18263))) (Hand.sp 22972 ((inHand I18439).or (inHand I18351)) ((inHand I18601).or (inHand I18526))))))))))).or (sumsHand tab_TQ0a))
theorem H_TQ0a_ok : HandOk Tryz.prog H_TQ0a := (HandOk.or (HandOk.or (HandOk.at 92 (inHand_ok I92_ok (by kernel_rfl))) (HandOk.or (HandOk.at 168 (inHand_ok I6703_ok (by kernel_rfl))) (HandOk.or (HandOk.at 14 (inHand_ok I7100_ok (by kernel_rfl))) (HandOk.or (HandOk.at 361 (inHand_ok I15056_ok (by kernel_rfl))) (HandOk.at 367 (HandOk.sp 20910 (HandOk.sp 20074 (HandOk.sp 19501 (HandOk.sp 19283 (inHand_ok I16488_ok (by kernel_rfl)) (HandOk.or (inHand_ok I16559_ok (by kernel_rfl)) (inHand_ok I16533_ok (by kernel_rfl)))) (HandOk.sp 19649 (HandOk.or (inHand_ok I16679_ok (by kernel_rfl)) (inHand_ok I16659_ok (by kernel_rfl))) (HandOk.or (inHand_ok I16908_ok (by kernel_rfl)) (inHand_ok I16747_ok (by kernel_rfl))))) (HandOk.sp 20504 (HandOk.sp 20108 (inHand_ok I16955_ok (by kernel_rfl)) (HandOk.or (inHand_ok I17095_ok (by kernel_rfl)) (inHand_ok I16975_ok (by kernel_rfl)))) (HandOk.sp 20604 (HandOk.or (inHand_ok I17231_ok (by kernel_rfl)) (inHand_ok I17180_ok (by kernel_rfl))) (HandOk.or (inHand_ok I17340_ok (by kernel_rfl)) (inHand_ok I17251_ok (by kernel_rfl)))))) (HandOk.sp 22327 (HandOk.sp 21474 (HandOk.sp 21246 (inHand_ok I17420_ok (by kernel_rfl)) (HandOk.or (inHand_ok I17675_ok (by kernel_rfl)) (inHand_ok I17595_ok (by kernel_rfl)))) (HandOk.sp 21855 (HandOk.or (inHand_ok I17862_ok (by kernel_rfl)) (inHand_ok I17716_ok (by kernel_rfl))) (HandOk.or (inHand_ok I17976_ok (by kernel_rfl)) (inHand_ok I17909_ok (by kernel_rfl))))) (HandOk.sp 22628 (HandOk.sp 22480 (HandOk.or (inHand_ok I18212_ok (by kernel_rfl)) (inHand_ok I18167_ok (by kernel_rfl))) (HandOk.or (inHand_ok I18283_ok (by kernel_rfl)) (inHand_ok I18263_ok (by kernel_rfl)))) (HandOk.sp 22972 (HandOk.or (inHand_ok I18439_ok (by kernel_rfl)) (inHand_ok I18351_ok (by kernel_rfl))) (HandOk.or (inHand_ok I18601_ok (by kernel_rfl)) (inHand_ok I18526_ok (by kernel_rfl)))))))))))) (sumsHand_ok tab_TQ0a_ok))
end Go.Proofs.YtaabcpibfignfaaGreatDoor.tq
