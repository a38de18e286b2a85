/-
  Contracts of calls, by the kernel.
-/
import Derived.Test.YtfkfmjlppllfoaaGreatDoorMNN
import Derived.Test.YtfkfmjlppllfoaaGreatDoorXN3
import Derived.Test.YtfkfmjlppllfoaaGreatDoorProg
import Derived.KernelRfl
set_option linter.unusedSectionVars false
set_option linter.unusedVariables false
set_option maxRecDepth 1000000
set_option maxHeartbeats 0
namespace Go.Proofs.YtfkfmjlppllfoaaGreatDoor.mq
open Go.X Go.RowKit
noncomputable abbrev q0 : Nat × Blk := (10429, (.cells 7 false [] (T.ofList 0 .leaf [(pN 10423), (pN 10425), (pN 7170), (.so 11143 0 39 3), .nils, bF, bF])))
noncomputable abbrev q1 : Nat × Blk := (13769, (.cells 4 false [] (T.ofList 0 .leaf [(.so 16717 0 2 1), (.so 16718 0 2 1), (.so 16859 0 1 7), (iN 7)])))
noncomputable abbrev q2 : Nat × Blk := (13770, (.map [(tx17, (pN 16578), 0), (tx0, (pN 16583), 1)] 2))
noncomputable abbrev q3 : Nat × Blk := (13772, (.map [(tx32, (iN 11), 0), (tx38, (iN 10), 1)] 2))
noncomputable abbrev q4 : Nat × Blk := (13773, (.cells 32 false [] (T.ofList 0 .leaf [(pN 7170), (pN 10428), (pN 10423), (pN 10425), (pN 10429), (pN 13769), (.so 17422 0 1 1), (.map 13770), (.map 13771), .nils, z1, (iN 3), (iN 6), z0, .nilp, bT, (iN 5000), (iN 10), z0, z1, z0, z0, (uN 0), z0, tx6, tx6, bF, z0, .nils, z0, z0, (.map 13772)])))
noncomputable abbrev q5 : Nat × Blk := (14062, (.cells 8 false [] (T.ofList 0 .leaf [(iN 52), (.sl 14064 0 14 14), (iN 33), tx17, tx0, .nils, .nils, (.so 15200 0 2 9)])))
noncomputable abbrev q6 : Nat × Blk := (14870, (.cells 13 true [] (T.ofList 0 .leaf [(uN 26), (uN 154), (uN 0), (uN 5), (uN 3), (uN 172), (uN 26), (uN 4), (uN 100), (uN 184), (uN 0), (uN 11), (uN 172)])))
noncomputable abbrev q7 : Nat × Blk := (15194, (.cells 4 true [] (T.ofList 0 .leaf [(iN 255), (iN 6), (.so 15191 0 1 3), .nils])))
noncomputable abbrev q8 : Nat × Blk := (15200, (.cells 18 true [] (T.ofList 0 .leaf [(iN 9), tx50, tx44, bT, z2, z1, (.so 14502 0 13 1), .nils, (.so 14826 0 1 4), (iN 9), tx57, tx44, bT, z2, z1, (.so 14870 0 13 1), .nils, (.so 15194 0 1 4)])))
noncomputable abbrev q9 : Nat × Blk := (16578, (.cells 2 false [] (T.ofList 0 .leaf [z2, (.sl 16582 0 0 0)])))
noncomputable abbrev q10 : Nat × Blk := (16717, (.cells 3 true [] (T.ofList 0 .leaf [z1, z1, z1])))
noncomputable abbrev q11 : Nat × Blk := (16718, (.cells 3 true [] (T.ofList 0 .leaf [bF, bF, bF])))
noncomputable abbrev q12 : Nat × Blk := (16859, (.cells 14 true [] (T.ofList 0 .leaf [z0, z1, (iN 9), z0, z1, z2, z1, z0, z0, (iN 5), z1, z1, z2, z0])))
noncomputable abbrev q13 : Nat × Blk := (17159, (.cells 6 false [] (T.ofList 0 .leaf [z0, z0, (pN 14062), z1, (iN 12), .nilp])))
noncomputable abbrev q14 : Nat × Blk := (17422, (.cells 2 true [] (T.ofList 0 .leaf [(pN 17159), (pN 17420)])))
noncomputable abbrev q15 : Nat × Blk := (13769, (.cells 4 false [] (T.ofList 0 .leaf [(.so 16717 0 3 1), (.so 16718 0 3 1), (.so 16859 0 2 7), (iN 14)])))
noncomputable abbrev q16 : Nat × Blk := (13772, (.map [(tx32, (iN 10), 0), (tx38, (iN 10), 1)] 2))
noncomputable abbrev q17 : Nat × Blk := (13773, (.cells 32 false [] (T.ofList 0 .leaf [(pN 7170), (pN 10428), (pN 10423), (pN 10425), (pN 10429), (pN 13769), (.so 17422 0 2 1), (.map 13770), (.map 13771), .nils, z1, (iN 3), (iN 6), z0, .nilp, bT, (iN 5000), (iN 9), z0, z1, z0, z0, (uN 0), z0, tx6, tx6, bF, z0, .nils, z0, z0, (.map 13772)])))
noncomputable abbrev q18 : Nat × Blk := (14502, (.cells 13 true [] (T.ofList 0 .leaf [(uN 26), (uN 154), (uN 0), (uN 5), (uN 4), (uN 172), (uN 26), (uN 4), (uN 100), (uN 184), (uN 0), (uN 6), (uN 172)])))
noncomputable abbrev q19 : Nat × Blk := (14826, (.cells 4 true [] (T.ofList 0 .leaf [(iN 255), (iN 6), (.so 14823 0 1 3), .nils])))
noncomputable abbrev q20 : Nat × Blk := (16717, (.cells 3 true [] (T.ofList 0 .leaf [z1, z0, z1])))
noncomputable abbrev q21 : Nat × Blk := (16859, (.cells 14 true [] (T.ofList 0 .leaf [z0, z1, (iN 9), z0, z1, z2, z0, z0, z0, (iN 4), z1, z1, z2, z1])))
noncomputable abbrev q22 : Nat × Blk := (17159, (.cells 6 false [] (T.ofList 0 .leaf [z0, z2, (pN 14062), z1, (iN 9), .nilp])))
noncomputable abbrev q23 : Nat × Blk := (17420, (.cells 6 false [] (T.ofList 0 .leaf [z0, z0, (pN 14062), z0, (iN 5), .nilp])))
noncomputable abbrev q24 : Nat × Blk := (13769, (.cells 4 false [] (T.ofList 0 .leaf [(.so 16717 0 2 1), (.so 16718 0 2 1), (.so 16859 0 2 7), (iN 14)])))
noncomputable abbrev q25 : Nat × Blk := (13772, (.map [(tx32, (iN 9), 0), (tx38, (iN 10), 1)] 2))
noncomputable abbrev q26 : Nat × Blk := (13773, (.cells 32 false [] (T.ofList 0 .leaf [(pN 7170), (pN 10428), (pN 10423), (pN 10425), (pN 10429), (pN 13769), (.so 17422 0 2 1), (.map 13770), (.map 13771), .nils, z1, (iN 3), (iN 6), z0, .nilp, bT, (iN 5000), (iN 8), z0, z1, z0, z0, (uN 0), z0, tx6, tx6, bF, z0, .nils, z0, z0, (.map 13772)])))
noncomputable abbrev q27 : Nat × Blk := (16717, (.cells 3 true [] (T.ofList 0 .leaf [z1, z0, z0])))
noncomputable abbrev q28 : Nat × Blk := (16859, (.cells 14 true [] (T.ofList 0 .leaf [z0, z1, (iN 9), z0, z1, z2, z0, z0, z0, z1, z1, z1, z2, z0])))
noncomputable abbrev q29 : Nat × Blk := (17420, (.cells 6 false [] (T.ofList 0 .leaf [z0, z0, (pN 14062), z0, (iN 4), .nilp])))
noncomputable abbrev q30 : Nat × Blk := (13772, (.map [(tx32, (iN 8), 0), (tx38, (iN 10), 1)] 2))
noncomputable abbrev q31 : Nat × Blk := (13773, (.cells 32 false [] (T.ofList 0 .leaf [(pN 7170), (pN 10428), (pN 10423), (pN 10425), (pN 10429), (pN 13769), (.so 17422 0 2 1), (.map 13770), (.map 13771), .nils, z1, (iN 3), (iN 6), z0, .nilp, bT, (iN 5000), (iN 7), z0, z1, z0, z0, (uN 0), z0, tx6, tx6, bF, z0, .nils, z0, z0, (.map 13772)])))
noncomputable abbrev q32 : Nat × Blk := (16859, (.cells 14 true [] (T.ofList 0 .leaf [z0, z1, (iN 9), z0, z1, z2, z0, z0, z0, z0, z1, z1, z2, z1])))
noncomputable abbrev q33 : Nat × Blk := (17420, (.cells 6 false [] (T.ofList 0 .leaf [z0, z0, (pN 14062), z0, z1, .nilp])))
noncomputable abbrev q34 : Nat × Blk := (13772, (.map [(tx32, (iN 7), 0), (tx38, (iN 10), 1)] 2))
noncomputable abbrev q35 : Nat × Blk := (13773, (.cells 32 false [] (T.ofList 0 .leaf [(pN 7170), (pN 10428), (pN 10423), (pN 10425), (pN 10429), (pN 13769), (.so 17422 0 2 1), (.map 13770), (.map 13771), .nils, z1, (iN 3), (iN 6), z0, .nilp, bT, (iN 5000), (iN 6), z0, z1, z0, z0, (uN 0), z0, tx6, tx6, bF, z0, .nils, z0, z0, (.map 13772)])))
noncomputable abbrev q36 : Nat × Blk := (16859, (.cells 14 true [] (T.ofList 0 .leaf [z0, z1, (iN 9), z0, z1, z2, z0, z0, z0, z0, z1, z1, z2, z0])))
noncomputable abbrev q37 : Nat × Blk := (17420, (.cells 6 false [] (T.ofList 0 .leaf [z0, z0, (pN 14062), z0, z0, .nilp])))
noncomputable abbrev q38 : Nat × Blk := (7169, (.map [(tx3, (pN 7366), 0), (tx25, (pN 7514), 1), (tx26, (pN 7623), 2), (tx11, (pN 7734), 3), (tx27, (pN 7848), 4), (tx28, (pN 7961), 5), (tx21, (pN 8058), 6), (tx33, (pN 8152), 7), (tx24, (pN 8243), 8), (tx36, (pN 8333), 9), (tx15, (pN 8439), 10), (tx29, (pN 8542), 11), (tx13, (pN 8657), 12), (tx2, (pN 8755), 13), (tx9, (pN 8848), 14), (tx30, (pN 8953), 15), (tx8, (pN 9052), 16), (tx16, (pN 9164), 17), (tx22, (pN 9260), 18), (tx34, (pN 9361), 19), (tx31, (pN 9463), 20), (tx23, (pN 9573), 21), (tx0, (pN 9584), 22), (tx20, (pN 9695), 23), (tx5, (pN 9787), 24), (tx19, (pN 9894), 25), (tx7, (pN 9915), 26), (tx1, (pN 9972), 27), (tx10, (pN 10112), 28), (tx39, (pN 10124), 29), (tx12, (pN 10212), 30), (tx14, (pN 10312), 31), (tx37, (pN 10412), 32)] 33))
noncomputable abbrev q39 : Nat × Blk := (7170, (.cells 3 false [] (T.ofList 0 .leaf [(.map 7168), (.map 7169), (.so 15202 0 1 1)])))
noncomputable abbrev q40 : Nat × Blk := (9584, (.cells 8 false [] (T.ofList 0 .leaf [(iN 52), .nils, (iN 33), tx0, tx6, .nils, .nils, (.so 9596 0 3 9)])))
noncomputable abbrev q41 : Nat × Blk := (13772, (.map [(tx32, (iN 7), 0), (tx38, (iN 9), 1)] 2))
noncomputable abbrev q42 : Nat × Blk := (13773, (.cells 32 false [] (T.ofList 0 .leaf [(pN 7170), (pN 10428), (pN 10423), (pN 10425), (pN 10429), (pN 13769), (.so 17161 0 1 1), (.map 13770), (.map 13771), .nils, z1, (iN 3), (iN 6), z0, .nilp, bT, (iN 5000), (iN 5), z0, z1, z0, z0, (uN 0), z0, tx6, tx6, bF, z0, .nils, z0, z0, (.map 13772)])))
noncomputable abbrev q43 : Nat × Blk := (14064, (.cells 70 false [z0, tx6, z0, z0, z0] (ofPairs [(5, z1), (6, tx17), (7, z0), (8, z0), (9, z0), (10, (iN 7)), (11, tx6), (12, z0), (13, z1), (14, z0), (15, z1), (16, tx57), (17, z0), (18, z0), (19, z0), (20, z1), (21, tx44), (22, z0), (23, z0), (24, z0), (25, (iN 12)), (26, tx6), (27, z0), (28, (iN 3)), (29, (iN 4)), (30, (iN 10)), (31, tx6), (32, z0), (33, z2), (34, (iN 5)), (35, z1), (36, tx50), (37, z0), (38, z0), (39, z0), (40, z1), (41, tx56), (42, z0), (43, z0), (44, z0), (45, z1), (46, tx64), (47, z0), (48, z0), (49, z0), (50, (iN 12)), (51, tx6), (52, z0), (53, (iN 7)), (54, (iN 4)), (55, (iN 10)), (56, tx6), (57, z0), (58, z2), (59, (iN 10)), (60, z1), (61, tx0), (62, z0), (63, z0), (64, z0), (65, (iN 7)), (66, tx6), (67, z0), (68, (iN 12)), (69, z0)])))
noncomputable abbrev q44 : Nat × Blk := (16859, (.cells 14 true [] (T.ofList 0 .leaf [z0, z1, (iN 8), z0, z1, z2, z1, z0, z1, (iN 5), z1, z1, z2, z0])))
noncomputable abbrev q45 : Nat × Blk := (17159, (.cells 6 false [] (T.ofList 0 .leaf [z0, z0, (pN 14062), z1, (iN 9), .nilp])))
noncomputable abbrev q46 : Nat × Blk := (13769, (.cells 4 false [] (T.ofList 0 .leaf [(.so 16717 0 3 1), (.so 16718 0 3 1), (.so 16859 0 1 7), (iN 7)])))
noncomputable abbrev q47 : Nat × Blk := (13772, (.map [(tx32, (iN 7), 0), (tx38, (iN 8), 1)] 2))
noncomputable abbrev q48 : Nat × Blk := (13773, (.cells 32 false [] (T.ofList 0 .leaf [(pN 7170), (pN 10428), (pN 10423), (pN 10425), (pN 10429), (pN 13769), (.so 17161 0 1 1), (.map 13770), (.map 13771), .nils, z1, (iN 3), (iN 6), z0, .nilp, bT, (iN 5000), (iN 4), z0, z1, z0, z0, (uN 0), z0, tx6, tx6, bF, z0, .nils, z0, z0, (.map 13772)])))
noncomputable abbrev q49 : Nat × Blk := (16859, (.cells 14 true [] (T.ofList 0 .leaf [z0, z1, (iN 7), z0, z1, z2, z2, z0, z1, (iN 5), z1, z1, z2, z0])))
noncomputable abbrev q50 : Nat × Blk := (17159, (.cells 6 false [] (T.ofList 0 .leaf [z0, z0, (pN 14062), z1, (iN 8), .nilp])))
noncomputable abbrev q51 : Nat × Blk := (13772, (.map [(tx32, (iN 7), 0), (tx38, (iN 7), 1)] 2))
noncomputable abbrev q52 : Nat × Blk := (13773, (.cells 32 false [] (T.ofList 0 .leaf [(pN 7170), (pN 10428), (pN 10423), (pN 10425), (pN 10429), (pN 13769), (.so 17161 0 1 1), (.map 13770), (.map 13771), .nils, z1, (iN 3), (iN 6), z0, .nilp, bT, (iN 5000), (iN 3), z0, z1, z0, z0, (uN 0), z0, tx6, tx6, bF, z0, .nils, z0, z0, (.map 13772)])))
noncomputable abbrev q53 : Nat × Blk := (16717, (.cells 3 true [] (T.ofList 0 .leaf [z1, z1, z0])))
noncomputable abbrev q54 : Nat × Blk := (16859, (.cells 14 true [] (T.ofList 0 .leaf [z0, z1, (iN 6), z0, z1, z2, z1, z0, z1, (iN 5), z1, z1, z2, z0])))
noncomputable abbrev q55 : Nat × Blk := (17159, (.cells 6 false [] (T.ofList 0 .leaf [z0, z0, (pN 14062), z1, (iN 7), .nilp])))
noncomputable abbrev q56 : Nat × Blk := (13769, (.cells 4 false [] (T.ofList 0 .leaf [(.so 16717 0 1 1), (.so 16718 0 1 1), (.so 16859 0 1 7), (iN 7)])))
noncomputable abbrev q57 : Nat × Blk := (13772, (.map [(tx32, (iN 7), 0), (tx38, (iN 6), 1)] 2))
noncomputable abbrev q58 : Nat × Blk := (13773, (.cells 32 false [] (T.ofList 0 .leaf [(pN 7170), (pN 10428), (pN 10423), (pN 10425), (pN 10429), (pN 13769), (.so 17161 0 1 1), (.map 13770), (.map 13771), .nils, z1, (iN 3), (iN 6), z0, .nilp, bT, (iN 5000), z2, z0, z1, z0, z0, (uN 0), z0, tx6, tx6, bF, z0, .nils, z0, z0, (.map 13772)])))
noncomputable abbrev q59 : Nat × Blk := (16859, (.cells 14 true [] (T.ofList 0 .leaf [z0, z1, z1, z0, z1, z2, z0, z0, z1, (iN 5), z1, z1, z2, z0])))
noncomputable abbrev q60 : Nat × Blk := (17159, (.cells 6 false [] (T.ofList 0 .leaf [z0, z0, (pN 14062), z1, (iN 6), .nilp])))
noncomputable abbrev q61 : Nat × Blk := (13772, (.map [(tx32, (iN 7), 0), (tx38, (iN 5), 1)] 2))
noncomputable abbrev q62 : Nat × Blk := (13773, (.cells 32 false [] (T.ofList 0 .leaf [(pN 7170), (pN 10428), (pN 10423), (pN 10425), (pN 10429), (pN 13769), (.so 17161 0 1 1), (.map 13770), (.map 13771), .nils, z1, (iN 3), (iN 6), z0, .nilp, bT, (iN 5000), z1, z0, z1, z0, z0, (uN 0), z0, tx6, tx6, bF, z0, .nils, z0, z0, (.map 13772)])))
noncomputable abbrev q63 : Nat × Blk := (16859, (.cells 14 true [] (T.ofList 0 .leaf [z0, z1, z0, z0, z1, z2, z1, z0, z1, (iN 5), z1, z1, z2, z0])))
noncomputable abbrev q64 : Nat × Blk := (17159, (.cells 6 false [] (T.ofList 0 .leaf [z0, z0, (pN 14062), z1, z1, .nilp])))
noncomputable abbrev q65 : Nat × Blk := (13772, (.map [(tx32, (iN 7), 0), (tx38, (iN 4), 1)] 2))
noncomputable abbrev q66 : Nat × Blk := (13772, (.map [(tx32, (iN 6), 0), (tx38, (iN 4), 1)] 2))
noncomputable abbrev q67 : Nat × Blk := (13773, (.cells 32 false [] (T.ofList 0 .leaf [(pN 7170), (pN 10428), (pN 10423), (pN 10425), (pN 10429), (pN 13769), (.so 16862 0 1 1), (.map 13770), (.map 13771), .nils, z1, (iN 3), (iN 6), z0, .nilp, bT, (iN 5000), (iN 10), z0, z1, z0, z0, (uN 0), z0, tx6, tx6, bF, z0, .nils, z0, z0, (.map 13772)])))
noncomputable abbrev q68 : Nat × Blk := (16593, (.cells 6 false [] (T.ofList 0 .leaf [z0, z0, (pN 14062), z0, (iN 12), .nilp])))
noncomputable abbrev q69 : Nat × Blk := (16859, (.cells 14 true [] (T.ofList 0 .leaf [z0, z0, (iN 9), z0, z1, z2, z1, z0, z1, (iN 5), z1, z1, z2, z0])))
noncomputable abbrev q70 : Nat × Blk := (16862, (.cells 2 true [] (T.ofList 0 .leaf [(pN 16593), (pN 16860)])))
noncomputable abbrev q71 : Nat × Blk := (13772, (.map [(tx32, (iN 6), 0), (tx38, (iN 3), 1)] 2))
noncomputable abbrev q72 : Nat × Blk := (13773, (.cells 32 false [] (T.ofList 0 .leaf [(pN 7170), (pN 10428), (pN 10423), (pN 10425), (pN 10429), (pN 13769), (.so 16862 0 2 1), (.map 13770), (.map 13771), .nils, z1, (iN 3), (iN 6), z0, .nilp, bT, (iN 5000), (iN 9), z0, z1, z0, z0, (uN 0), z0, tx6, tx6, bF, z0, .nils, z0, z0, (.map 13772)])))
noncomputable abbrev q73 : Nat × Blk := (16593, (.cells 6 false [] (T.ofList 0 .leaf [z0, z2, (pN 14062), z0, (iN 9), .nilp])))
noncomputable abbrev q74 : Nat × Blk := (16859, (.cells 14 true [] (T.ofList 0 .leaf [z0, z0, (iN 9), z0, z1, z2, z0, z0, z1, (iN 4), z1, z1, z2, z1])))
noncomputable abbrev q75 : Nat × Blk := (16860, (.cells 6 false [] (T.ofList 0 .leaf [z0, z0, (pN 14062), z1, (iN 5), .nilp])))
noncomputable abbrev q76 : Nat × Blk := (13772, (.map [(tx32, (iN 6), 0), (tx38, z2, 1)] 2))
noncomputable abbrev q77 : Nat × Blk := (13773, (.cells 32 false [] (T.ofList 0 .leaf [(pN 7170), (pN 10428), (pN 10423), (pN 10425), (pN 10429), (pN 13769), (.so 16862 0 2 1), (.map 13770), (.map 13771), .nils, z1, (iN 3), (iN 6), z0, .nilp, bT, (iN 5000), (iN 8), z0, z1, z0, z0, (uN 0), z0, tx6, tx6, bF, z0, .nils, z0, z0, (.map 13772)])))
noncomputable abbrev q78 : Nat × Blk := (16859, (.cells 14 true [] (T.ofList 0 .leaf [z0, z0, (iN 9), z0, z1, z2, z0, z0, z1, z1, z1, z1, z2, z0])))
noncomputable abbrev q79 : Nat × Blk := (16860, (.cells 6 false [] (T.ofList 0 .leaf [z0, z0, (pN 14062), z1, (iN 4), .nilp])))
noncomputable abbrev q80 : Nat × Blk := (13772, (.map [(tx32, (iN 6), 0), (tx38, z1, 1)] 2))
noncomputable abbrev q81 : Nat × Blk := (13773, (.cells 32 false [] (T.ofList 0 .leaf [(pN 7170), (pN 10428), (pN 10423), (pN 10425), (pN 10429), (pN 13769), (.so 16862 0 2 1), (.map 13770), (.map 13771), .nils, z1, (iN 3), (iN 6), z0, .nilp, bT, (iN 5000), (iN 7), z0, z1, z0, z0, (uN 0), z0, tx6, tx6, bF, z0, .nils, z0, z0, (.map 13772)])))
noncomputable abbrev q82 : Nat × Blk := (16859, (.cells 14 true [] (T.ofList 0 .leaf [z0, z0, (iN 9), z0, z1, z2, z0, z0, z1, z0, z1, z1, z2, z1])))
noncomputable abbrev q83 : Nat × Blk := (16860, (.cells 6 false [] (T.ofList 0 .leaf [z0, z0, (pN 14062), z1, z1, .nilp])))
noncomputable abbrev q84 : Nat × Blk := (13772, (.map [(tx32, (iN 6), 0)] 1))
noncomputable abbrev q85 : Nat × Blk := (13773, (.cells 32 false [] (T.ofList 0 .leaf [(pN 7170), (pN 10428), (pN 10423), (pN 10425), (pN 10429), (pN 13769), (.so 16862 0 2 1), (.map 13770), (.map 13771), .nils, z1, (iN 3), (iN 6), z0, .nilp, bT, (iN 5000), (iN 6), z0, z1, z0, z0, (uN 0), z0, tx6, tx6, bF, z0, .nils, z0, z0, (.map 13772)])))
noncomputable abbrev q86 : Nat × Blk := (16859, (.cells 14 true [] (T.ofList 0 .leaf [z0, z0, (iN 9), z0, z1, z2, z0, z0, z1, z0, z1, z1, z2, z0])))
noncomputable abbrev q87 : Nat × Blk := (16860, (.cells 6 false [] (T.ofList 0 .leaf [z0, z0, (pN 14062), z1, z0, .nilp])))
noncomputable abbrev q88 : Nat × Blk := (13769, (.cells 4 false [] (T.ofList 0 .leaf [(.so 16717 0 2 1), (.so 16718 0 2 1), (.so 16590 0 1 7), (iN 7)])))
noncomputable abbrev q89 : Nat × Blk := (13772, (.map [(tx32, (iN 5), 0)] 1))
noncomputable abbrev q90 : Nat × Blk := (13773, (.cells 32 false [] (T.ofList 0 .leaf [(pN 7170), (pN 10428), (pN 10423), (pN 10425), (pN 10429), (pN 13769), (.so 16595 0 1 1), (.map 13770), (.map 13771), .nils, z1, (iN 3), (iN 6), z0, .nilp, bT, (iN 5000), (iN 5), z0, z1, z0, z0, (uN 0), z0, tx6, tx6, bF, z0, .nils, z0, z0, (.map 13772)])))
noncomputable abbrev q91 : Nat × Blk := (16590, (.cells 7 true [] (T.ofList 0 .leaf [z0, z0, (iN 8), z0, z1, z2, z1])))
noncomputable abbrev q92 : Nat × Blk := (16593, (.cells 6 false [] (T.ofList 0 .leaf [z0, z0, (pN 14062), z0, (iN 9), .nilp])))
noncomputable abbrev q93 : Nat × Blk := (13769, (.cells 4 false [] (T.ofList 0 .leaf [(.so 16717 0 3 1), (.so 16718 0 3 1), (.so 16590 0 1 7), (iN 7)])))
noncomputable abbrev q94 : Nat × Blk := (13772, (.map [(tx32, (iN 4), 0)] 1))
noncomputable abbrev q95 : Nat × Blk := (13773, (.cells 32 false [] (T.ofList 0 .leaf [(pN 7170), (pN 10428), (pN 10423), (pN 10425), (pN 10429), (pN 13769), (.so 16595 0 1 1), (.map 13770), (.map 13771), .nils, z1, (iN 3), (iN 6), z0, .nilp, bT, (iN 5000), (iN 4), z0, z1, z0, z0, (uN 0), z0, tx6, tx6, bF, z0, .nils, z0, z0, (.map 13772)])))
noncomputable abbrev q96 : Nat × Blk := (16590, (.cells 7 true [] (T.ofList 0 .leaf [z0, z0, (iN 7), z0, z1, z2, z2])))
noncomputable abbrev q97 : Nat × Blk := (16593, (.cells 6 false [] (T.ofList 0 .leaf [z0, z0, (pN 14062), z0, (iN 8), .nilp])))
noncomputable abbrev q98 : Nat × Blk := (13769, (.cells 4 false [] (T.ofList 0 .leaf [(.so 16615 0 2 1), (.so 16616 0 2 1), (.so 16590 0 1 7), (iN 7)])))
noncomputable abbrev q99 : Nat × Blk := (13772, (.map [(tx32, (iN 3), 0)] 1))
noncomputable abbrev q100 : Nat × Blk := (13773, (.cells 32 false [] (T.ofList 0 .leaf [(pN 7170), (pN 10428), (pN 10423), (pN 10425), (pN 10429), (pN 13769), (.so 16595 0 1 1), (.map 13770), (.map 13771), .nils, z1, (iN 3), (iN 6), z0, .nilp, bT, (iN 5000), (iN 3), z0, z1, z0, z0, (uN 0), z0, tx6, tx6, bF, z0, .nils, z0, z0, (.map 13772)])))
noncomputable abbrev q101 : Nat × Blk := (16590, (.cells 7 true [] (T.ofList 0 .leaf [z0, z0, (iN 6), z0, z1, z2, z1])))
noncomputable abbrev q102 : Nat × Blk := (16593, (.cells 6 false [] (T.ofList 0 .leaf [z0, z0, (pN 14062), z0, (iN 7), .nilp])))
noncomputable abbrev q103 : Nat × Blk := (16615, (.cells 2 true [] (T.ofList 0 .leaf [z1, z1])))
noncomputable abbrev q104 : Nat × Blk := (16616, (.cells 2 true [] (T.ofList 0 .leaf [bF, bF])))
noncomputable abbrev q105 : Nat × Blk := (13769, (.cells 4 false [] (T.ofList 0 .leaf [(.so 16615 0 1 1), (.so 16616 0 1 1), (.so 16590 0 1 7), (iN 7)])))
noncomputable abbrev q106 : Nat × Blk := (13772, (.map [(tx32, z2, 0)] 1))
noncomputable abbrev q107 : Nat × Blk := (13773, (.cells 32 false [] (T.ofList 0 .leaf [(pN 7170), (pN 10428), (pN 10423), (pN 10425), (pN 10429), (pN 13769), (.so 16595 0 1 1), (.map 13770), (.map 13771), .nils, z1, (iN 3), (iN 6), z0, .nilp, bT, (iN 5000), z2, z0, z1, z0, z0, (uN 0), z0, tx6, tx6, bF, z0, .nils, z0, z0, (.map 13772)])))
noncomputable abbrev q108 : Nat × Blk := (16590, (.cells 7 true [] (T.ofList 0 .leaf [z0, z0, z1, z0, z1, z2, z0])))
noncomputable abbrev q109 : Nat × Blk := (16593, (.cells 6 false [] (T.ofList 0 .leaf [z0, z0, (pN 14062), z0, (iN 6), .nilp])))
noncomputable abbrev q110 : Nat × Blk := (13772, (.map [(tx32, z1, 0)] 1))
noncomputable abbrev q111 : Nat × Blk := (13773, (.cells 32 false [] (T.ofList 0 .leaf [(pN 7170), (pN 10428), (pN 10423), (pN 10425), (pN 10429), (pN 13769), (.so 16595 0 1 1), (.map 13770), (.map 13771), .nils, z1, (iN 3), (iN 6), z0, .nilp, bT, (iN 5000), z1, z0, z1, z0, z0, (uN 0), z0, tx6, tx6, bF, z0, .nils, z0, z0, (.map 13772)])))
noncomputable abbrev q112 : Nat × Blk := (16590, (.cells 7 true [] (T.ofList 0 .leaf [z0, z0, z0, z0, z1, z2, z1])))
noncomputable abbrev q113 : Nat × Blk := (16593, (.cells 6 false [] (T.ofList 0 .leaf [z0, z0, (pN 14062), z0, z1, .nilp])))
noncomputable abbrev q114 : Nat × Blk := (10428, (.cells 3 false [] (T.ofList 0 .leaf [(pN 7170), (.map 10426), (.map 10427)])))
noncomputable abbrev q115 : Nat × Blk := (14823, (.cells 3 true [] (T.ofList 0 .leaf [z1, tx6, z0])))
noncomputable abbrev q116 : Nat × Blk := (15191, (.cells 3 true [] (T.ofList 0 .leaf [z1, tx6, z0])))
noncomputable abbrev q117 : Nat × Blk := (5, (.cells 4 true [] (T.ofList 0 .leaf [(uN 73), tx6, z0, (uN 0)])))
noncomputable abbrev q118 : Nat × Blk := (14060, (.cells 218 true [] (T.ofList 0 .leaf [(uN 0), (uN 14), (uN 1), (uN 0), (uN 1), (uN 77), (uN 7), (uN 0), (uN 1), (uN 1), (uN 0), (uN 3), (uN 111), (uN 100), (uN 100), (uN 1), (uN 0), (uN 4), (uN 40), (uN 73), (uN 41), (uN 73), (uN 12), (uN 0), (uN 3), (uN 0), (uN 4), (uN 10), (uN 0), (uN 2), (uN 0), (uN 5), (uN 1), (uN 0), (uN 4), (uN 101), (uN 118), (uN 101), (uN 110), (uN 1), (uN 0), (uN 13), (uN 83), (uN 116), (uN 97), (uN 99), (uN 107), (uN 77), (uN 97), (uN 112), (uN 84), (uN 97), (uN 98), (uN 108), (uN 101), (uN 1), (uN 0), (uN 4), (uN 67), (uN 111), (uN 100), (uN 101), (uN 12), (uN 0), (uN 7), (uN 0), (uN 4), (uN 10), (uN 0), (uN 2), (uN 0), (uN 10), (uN 1), (uN 0), (uN 16), (uN 106), (uN 97), (uN 118), (uN 97), (uN 47), (uN 108), (uN 97), (uN 110), (uN 103), (uN 47), (uN 79), (uN 98), (uN 106), (uN 101), (uN 99), (uN 116), (uN 7), (uN 0), (uN 12), (uN 0), (uN 33), (uN 0), (uN 2), (uN 0), (uN 13), (uN 0), (uN 0), (uN 0), (uN 0), (uN 0), (uN 2), (uN 0), (uN 9), (uN 0), (uN 7), (uN 0), (uN 4), (uN 0), (uN 1), (uN 0), (uN 9), (uN 0), (uN 0), (uN 0), (uN 41), (uN 0), (uN 2), (uN 0), (uN 1), (uN 0), (uN 0), (uN 0), (uN 13), (uN 26), (uN 154), (uN 0), (uN 5), (uN 4), (uN 172), (uN 26), (uN 4), (uN 100), (uN 184), (uN 0), (uN 6), (uN 172), (uN 0), (uN 0), (uN 0), (uN 1), (uN 0), (uN 8), (uN 0), (uN 0), (uN 0), (uN 10), (uN 0), (uN 1), (uN 255), (uN 0), (uN 6), (uN 0), (uN 1), (uN 1), (uN 0), (uN 0), (uN 0), (uN 9), (uN 0), (uN 3), (uN 0), (uN 4), (uN 0), (uN 1), (uN 0), (uN 9), (uN 0), (uN 0), (uN 0), (uN 41), (uN 0), (uN 2), (uN 0), (uN 1), (uN 0), (uN 0), (uN 0), (uN 13), (uN 26), (uN 154), (uN 0), (uN 5), (uN 3), (uN 172), (uN 26), (uN 4), (uN 100), (uN 184), (uN 0), (uN 11), (uN 172), (uN 0), (uN 0), (uN 0), (uN 1), (uN 0), (uN 8), (uN 0), (uN 0), (uN 0), (uN 10), (uN 0), (uN 1), (uN 255), (uN 0), (uN 6), (uN 0), (uN 1), (uN 1), (uN 0), (uN 0), (uN 0), (uN 0)])))
noncomputable abbrev q119 : Nat × Blk := (14063, (.cells 3 false [] (T.ofList 0 .leaf [(pN 14061), (pN 14062), bF])))
noncomputable abbrev q120 : Nat × Blk := (7170, (.cells 3 false [] (T.ofList 0 .leaf [(.map 7168), (.map 7169), .nils])))
noncomputable abbrev q121 : Nat × Blk := (7366, (.cells 8 false [] (T.ofList 0 .leaf [(iN 52), .nils, (iN 49), tx3, tx0, .nils, .nils, (.so 7419 0 13 9)])))
noncomputable abbrev q122 : Nat × Blk := (8243, (.cells 8 false [] (T.ofList 0 .leaf [(iN 52), .nils, (iN 33), tx24, tx12, .nils, .nils, (.so 8252 0 2 9)])))
noncomputable abbrev q123 : Nat × Blk := (9695, (.cells 8 false [] (T.ofList 0 .leaf [(iN 52), .nils, (iN 33), tx20, tx24, .nils, .nils, (.so 9704 0 2 9)])))
noncomputable abbrev q124 : Nat × Blk := (9894, (.cells 8 false [] (T.ofList 0 .leaf [(iN 52), .nils, (iN 33), tx19, tx24, .nils, .nils, (.so 9903 0 2 9)])))
noncomputable abbrev q125 : Nat × Blk := (10212, (.cells 8 false [] (T.ofList 0 .leaf [(iN 52), .nils, (iN 33), tx12, tx0, .nils, (.sl 10226 0 1 1), (.so 10225 0 3 9)])))
noncomputable abbrev q126 : Nat × Blk := (10226, (.cells 4 false [] (T.ofList 0 .leaf [z2, tx82, tx63, z0])))
noncomputable abbrev q127 : Nat × Blk := (3256, (.cells 5 false [] (T.ofList 0 .leaf [(pN 3), (.so 6824 0 8 1), (.so 6826 0 3 1), (.so 6823 0 3 3), (.map 3255)])))
noncomputable abbrev q128 : Nat × Blk := (6823, (.cells 9 true [] (T.ofList 0 .leaf [tx3, .nils, (uN 0), tx19, (.so 6725 0 1 1), (uN 0), tx20, (.so 6821 0 1 1), (uN 0)])))
noncomputable abbrev q129 : Nat × Blk := (6824, (.cells 8 true [] (T.ofList 0 .leaf [(.int .u64 0), (.int .u64 0), (.int .u64 1), (.int .u64 0), (.int .u64 0), (.int .u64 2), (.int .u64 0), (.int .u64 0)])))
noncomputable abbrev q130 : Nat × Blk := (6826, (.cells 3 true [] (T.ofList 0 .leaf [z0, z2, (iN 5)])))
noncomputable abbrev q131 : Nat × Blk := (6842, (.map [(z1, z1, 0), ((iN 3), z1, 1), ((iN 6), z1, 2)] 3))
noncomputable abbrev q132 : Nat × Blk := (40, (.cells 4 true [] (T.ofList 0 .leaf [(uN 76), tx0, z0, (uN 0)])))
noncomputable abbrev q133 : Nat × Blk := (5, (.cells 4 true [] (T.ofList 0 .leaf [(uN 90), tx6, z0, (uN 0)])))
noncomputable abbrev q134 : Nat × Blk := (5, (.cells 4 true [] (T.ofList 0 .leaf [(uN 67), tx6, z0, (uN 0)])))
noncomputable abbrev q135 : Nat × Blk := (5, (.cells 4 true [] (T.ofList 0 .leaf [(uN 74), tx6, z0, (uN 0)])))
noncomputable abbrev q136 : Nat × Blk := (40, (.cells 4 true [] (T.ofList 0 .leaf [(uN 76), tx7, z0, (uN 0)])))
noncomputable abbrev q137 : Nat × Blk := (2, (.map [(tx3, (pN 199), 0), (tx25, (pN 347), 1), (tx26, (pN 456), 2), (tx11, (pN 567), 3), (tx27, (pN 681), 4), (tx28, (pN 794), 5), (tx21, (pN 891), 6), (tx33, (pN 985), 7), (tx24, (pN 1076), 8), (tx36, (pN 1166), 9), (tx15, (pN 1272), 10), (tx29, (pN 1375), 11), (tx13, (pN 1490), 12), (tx2, (pN 1588), 13), (tx9, (pN 1681), 14), (tx30, (pN 1786), 15), (tx8, (pN 1885), 16), (tx16, (pN 1997), 17), (tx22, (pN 2093), 18), (tx34, (pN 2194), 19), (tx31, (pN 2296), 20), (tx23, (pN 2406), 21), (tx0, (pN 2417), 22), (tx20, (pN 2528), 23), (tx5, (pN 2620), 24), (tx19, (pN 2727), 25), (tx7, (pN 2748), 26), (tx1, (pN 2805), 27), (tx10, (pN 2945), 28), (tx39, (pN 2957), 29), (tx12, (pN 3045), 30), (tx14, (pN 3145), 31), (tx37, (pN 3245), 32)] 33))
noncomputable abbrev q138 : Nat × Blk := (3, (.cells 3 false [] (T.ofList 0 .leaf [(.map 1), (.map 2), .nils])))
noncomputable abbrev q139 : Nat × Blk := (199, (.cells 8 false [] (T.ofList 0 .leaf [(iN 52), .nils, (iN 49), tx3, tx0, .nils, .nils, (.so 252 0 13 9)])))
noncomputable abbrev q140 : Nat × Blk := (1076, (.cells 8 false [] (T.ofList 0 .leaf [(iN 52), .nils, (iN 33), tx24, tx12, .nils, .nils, (.so 1085 0 2 9)])))
noncomputable abbrev q141 : Nat × Blk := (2417, (.cells 8 false [] (T.ofList 0 .leaf [(iN 52), .nils, (iN 33), tx0, tx6, .nils, .nils, (.so 2429 0 3 9)])))
noncomputable abbrev q142 : Nat × Blk := (2528, (.cells 8 false [] (T.ofList 0 .leaf [(iN 52), .nils, (iN 33), tx20, tx24, .nils, .nils, (.so 2537 0 2 9)])))
noncomputable abbrev q143 : Nat × Blk := (2727, (.cells 8 false [] (T.ofList 0 .leaf [(iN 52), .nils, (iN 33), tx19, tx24, .nils, .nils, (.so 2736 0 2 9)])))
noncomputable abbrev q144 : Nat × Blk := (3045, (.cells 8 false [] (T.ofList 0 .leaf [(iN 52), .nils, (iN 33), tx12, tx0, .nils, (.sl 3059 0 1 1), (.so 3058 0 3 9)])))
noncomputable abbrev q145 : Nat × Blk := (3059, (.cells 4 false [] (T.ofList 0 .leaf [z2, tx82, tx63, z0])))
theorem mixed : Tryz.prog.follows .mixedOrders = true := by kernel_rfl
variable [Tab]
noncomputable def K_MQ0a : Hand := Hand.none
theorem K_MQ0a_ok : HandOk Tryz.prog K_MQ0a := HandOk.none

noncomputable def I16329 : In := ⟨56, [(pN 13773)], 17424, [q24, q34, q35, q5, q18, q19, q8, q20, q11, q36, q37, q14], bT, 17451, [q15, q30, q31, q5, q18, q19, q8, q27, q11, q32, q33, q14]⟩
theorem I16329_ok : InOk Tryz.prog I16329 := InOk.of_run (K := K_MQ0a) (n := 5000) mixed K_MQ0a_ok (by kernel_rfl) (by as_aux_lemma => kernel_rfl)

noncomputable def I16156 : In := ⟨56, [(pN 13773)], 17229, [q56, q57, q58, q5, q6, q7, q8, q53, q11, q59, q60, (17161, (.cells 1 true [] (T.ofList 0 .leaf [(pN 17159)])))], bT, 17256, [q1, q51, q52, q5, q6, q7, q8, q53, q11, q54, q55, (17161, (.cells 1 true [] (T.ofList 0 .leaf [(pN 17159)])))]⟩
theorem I16156_ok : InOk Tryz.prog I16156 := InOk.of_run (K := K_MQ0a) (n := 5000) mixed K_MQ0a_ok (by kernel_rfl) (by as_aux_lemma => kernel_rfl)

noncomputable def I16108 : In := ⟨56, [(pN 13773)], 17163, [q56, q65, (13773, (.cells 32 false [] (T.ofList 0 .leaf [(pN 7170), (pN 10428), (pN 10423), (pN 10425), (pN 10429), (pN 13769), (.so 17161 0 1 1), (.map 13770), (.map 13771), .nils, z1, (iN 3), (iN 6), z0, .nilp, bT, (iN 5000), z0, z0, z1, z0, z0, (uN 0), z0, tx6, tx6, bF, z0, .nils, z0, z0, (.map 13772)]))), q5, q6, q7, q8, q27, q11, (16859, (.cells 14 true [] (T.ofList 0 .leaf [z0, z1, z0, z0, z1, z2, z0, z0, z1, (iN 5), z1, z1, z2, z0]))), (17159, (.cells 6 false [] (T.ofList 0 .leaf [z0, z0, (pN 14062), z1, z0, .nilp]))), (17161, (.cells 1 true [] (T.ofList 0 .leaf [(pN 17159)])))], bT, 17190, [q1, q61, q62, q5, q6, q7, q8, q53, q11, q63, q64, (17161, (.cells 1 true [] (T.ofList 0 .leaf [(pN 17159)])))]⟩
theorem I16108_ok : InOk Tryz.prog I16108 := InOk.of_run (K := K_MQ0a) (n := 5000) mixed K_MQ0a_ok (by kernel_rfl) (by as_aux_lemma => kernel_rfl)

noncomputable def I15879 : In := ⟨56, [(pN 13773)], 16864, [q24, q84, q85, q5, q6, q7, q8, q20, q11, q86, q87, q70], bT, 16891, [q15, q80, q81, q5, q6, q7, q8, q27, q11, q82, q83, q70]⟩
theorem I15879_ok : InOk Tryz.prog I15879 := InOk.of_run (K := K_MQ0a) (n := 5000) mixed K_MQ0a_ok (by kernel_rfl) (by as_aux_lemma => kernel_rfl)

noncomputable def I15705 : In := ⟨56, [(pN 13773)], 16665, [q105, q106, q107, q5, q18, q19, q8, q108, q109, (16595, (.cells 1 true [] (T.ofList 0 .leaf [(pN 16593)]))), q103, q104], bT, 16692, [q98, q99, q100, q5, q18, q19, q8, q101, q102, (16595, (.cells 1 true [] (T.ofList 0 .leaf [(pN 16593)]))), q103, q104]⟩
theorem I15705_ok : InOk Tryz.prog I15705 := InOk.of_run (K := K_MQ0a) (n := 5000) mixed K_MQ0a_ok (by kernel_rfl) (by as_aux_lemma => kernel_rfl)

noncomputable def I15657 : In := ⟨56, [(pN 13773)], 16597, [(13769, (.cells 4 false [] (T.ofList 0 .leaf [(.so 16591 0 1 1), (.so 16592 0 1 1), (.so 16590 0 1 7), (iN 7)]))), (13772, (.map [] 0)), (13773, (.cells 32 false [] (T.ofList 0 .leaf [(pN 7170), (pN 10428), (pN 10423), (pN 10425), (pN 10429), (pN 13769), (.so 16595 0 1 1), (.map 13770), (.map 13771), .nils, z1, (iN 3), (iN 6), z0, .nilp, bT, (iN 5000), z0, z0, z0, z0, z0, (uN 0), z0, tx6, tx6, bF, z0, .nils, z0, z0, (.map 13772)]))), q5, q18, q19, q8, (16590, (.cells 7 true [] (T.ofList 0 .leaf [z0, z0, z0, z0, z1, z2, z0]))), (16591, (.cells 1 true [] (T.ofList 0 .leaf [z1]))), (16592, (.cells 1 true [] (T.ofList 0 .leaf [bF]))), (16593, (.cells 6 false [] (T.ofList 0 .leaf [z0, z0, (pN 14062), z0, z0, .nilp]))), (16595, (.cells 1 true [] (T.ofList 0 .leaf [(pN 16593)])))], bT, 16626, [q98, q110, q111, q5, q18, q19, q8, q112, q113, (16595, (.cells 1 true [] (T.ofList 0 .leaf [(pN 16593)]))), q103, q104]⟩
theorem I15657_ok : InOk Tryz.prog I15657 := InOk.of_run (K := K_MQ0a) (n := 5000) mixed K_MQ0a_ok (by kernel_rfl) (by as_aux_lemma => kernel_rfl)

noncomputable def S14790 : Sum := ⟨(.tup [(uN 0), bF]), 13, []⟩
theorem S14790_ok : SumOk Tryz.prog 229 [(iN 3)] S14790 := SumOk.of_run (K := K_MQ0a) (n := 5000) (keep := []) mixed K_MQ0a_ok (by kernel_rfl) (by as_aux_lemma => kernel_rfl)

noncomputable def S14533 : Sum := ⟨(.tup [(uN 0), bF]), 13, []⟩
theorem S14533_ok : SumOk Tryz.prog 229 [(iN 184)] S14533 := SumOk.of_run (K := K_MQ0a) (n := 5000) (keep := []) mixed K_MQ0a_ok (by kernel_rfl) (by as_aux_lemma => kernel_rfl)

noncomputable def S14528 : Sum := ⟨(.tup [(uN 0), bF]), 13, []⟩
theorem S14528_ok : SumOk Tryz.prog 229 [(iN 100)] S14528 := SumOk.of_run (K := K_MQ0a) (n := 5000) (keep := []) mixed K_MQ0a_ok (by kernel_rfl) (by as_aux_lemma => kernel_rfl)

noncomputable def S14513 : Sum := ⟨(.tup [(uN 0), bF]), 13, []⟩
theorem S14513_ok : SumOk Tryz.prog 229 [(iN 172)] S14513 := SumOk.of_run (K := K_MQ0a) (n := 5000) (keep := []) mixed K_MQ0a_ok (by kernel_rfl) (by as_aux_lemma => kernel_rfl)

noncomputable def S14508 : Sum := ⟨(.tup [(uN 0), bF]), 13, []⟩
theorem S14508_ok : SumOk Tryz.prog 229 [(iN 4)] S14508 := SumOk.of_run (K := K_MQ0a) (n := 5000) (keep := []) mixed K_MQ0a_ok (by kernel_rfl) (by as_aux_lemma => kernel_rfl)

noncomputable def S14503 : Sum := ⟨(.tup [(uN 0), bF]), 13, []⟩
theorem S14503_ok : SumOk Tryz.prog 229 [(iN 154)] S14503 := SumOk.of_run (K := K_MQ0a) (n := 5000) (keep := []) mixed K_MQ0a_ok (by kernel_rfl) (by as_aux_lemma => kernel_rfl)

noncomputable def S14483 : Sum := ⟨bT, 20, []⟩
theorem S14483_ok : SumOk Tryz.prog 227 [(iN 184)] S14483 := SumOk.of_run (K := K_MQ0a) (n := 5000) (keep := []) mixed K_MQ0a_ok (by kernel_rfl) (by as_aux_lemma => kernel_rfl)

noncomputable def S14477 : Sum := ⟨bT, 10, []⟩
theorem S14477_ok : SumOk Tryz.prog 227 [(iN 100)] S14477 := SumOk.of_run (K := K_MQ0a) (n := 5000) (keep := []) mixed K_MQ0a_ok (by kernel_rfl) (by as_aux_lemma => kernel_rfl)

noncomputable def S14463 : Sum := ⟨bT, 19, []⟩
theorem S14463_ok : SumOk Tryz.prog 227 [(iN 172)] S14463 := SumOk.of_run (K := K_MQ0a) (n := 5000) (keep := []) mixed K_MQ0a_ok (by kernel_rfl) (by as_aux_lemma => kernel_rfl)

noncomputable def S14452 : Sum := ⟨bT, 18, []⟩
theorem S14452_ok : SumOk Tryz.prog 227 [(iN 154)] S14452 := SumOk.of_run (K := K_MQ0a) (n := 5000) (keep := []) mixed K_MQ0a_ok (by kernel_rfl) (by as_aux_lemma => kernel_rfl)

noncomputable def S14110 : Sum := ⟨(iN (-1)), 1, []⟩
theorem S14110_ok : SumOk Tryz.prog 360 [tx50, (.str 2 15932)] S14110 := SumOk.of_run (K := K_MQ0a) (n := 5000) (keep := []) mixed K_MQ0a_ok (by kernel_rfl) (by as_aux_lemma => kernel_rfl)

noncomputable def S14023 : Sum := ⟨bT, 10, []⟩
theorem S14023_ok : SumOk Tryz.prog 192 [tx50] S14023 := SumOk.of_run (K := K_MQ0a) (n := 5000) (keep := []) mixed K_MQ0a_ok (by kernel_rfl) (by as_aux_lemma => kernel_rfl)

noncomputable def S13931 : Sum := ⟨(.tup [(.so 5 0 1 4), (.agg [(uN 73), tx6, z0, (uN 0)]), bT]), 11, [q117]⟩
theorem S13931_ok : SumOk Tryz.prog 120 [tx44] S13931 := SumOk.of_run (K := K_MQ0a) (n := 5000) (keep := [5]) mixed K_MQ0a_ok (by kernel_rfl) (by as_aux_lemma => kernel_rfl)

noncomputable def S13918 : Sum := ⟨bF, 1, []⟩
theorem S13918_ok : SumOk Tryz.prog 283 [tx57, tx76] S13918 := SumOk.of_run (K := K_MQ0a) (n := 5000) (keep := []) mixed K_MQ0a_ok (by kernel_rfl) (by as_aux_lemma => kernel_rfl)

noncomputable def S13891 : Sum := ⟨bT, 5, []⟩
theorem S13891_ok : SumOk Tryz.prog 278 [tx17] S13891 := SumOk.of_run (K := K_MQ0a) (n := 5000) (keep := []) mixed K_MQ0a_ok (by kernel_rfl) (by as_aux_lemma => kernel_rfl)

noncomputable def I6703 : In := ⟨145, [(pN 3256), (.fn (.func 146) [] [(pN 6843)])], 6851, [q127, (6725, (.cells 1 true [] (T.ofList 0 .leaf [(uN 76)]))), (6821, (.cells 1 true [] (T.ofList 0 .leaf [(uN 76)]))), q128, q129, q130, q131, (6843, (.cells 1 false [] (T.ofList 0 .leaf [(.map 6842)])))], (.map 6851), 6859, [(3256, (.cells 5 false [] (T.ofList 0 .leaf [(pN 3), (.so 6824 0 8 1), (.so 6858 0 3 1), (.so 6823 0 3 3), (.map 3255)]))), (6725, (.cells 1 true [] (T.ofList 0 .leaf [(uN 76)]))), (6821, (.cells 1 true [] (T.ofList 0 .leaf [(uN 76)]))), q128, q129, q130, q131, (6843, (.cells 1 false [] (T.ofList 0 .leaf [(.map 6842)]))), (6851, (.map [(z1, z1, 0), ((iN 3), (iN 3), 1), ((iN 6), (iN 6), 2)] 3))]⟩
theorem I6703_ok : InOk Tryz.prog I6703 := InOk.of_run (K := K_MQ0a) (n := 5000) mixed K_MQ0a_ok (by kernel_rfl) (by as_aux_lemma => kernel_rfl)

noncomputable def S5693 : Sum := ⟨(.tup [(.so 5 0 1 4), (.agg [(uN 86), tx6, z0, (uN 0)]), bT]), 6, [q133]⟩
theorem S5693_ok : SumOk Tryz.prog 120 [tx65] S5693 := SumOk.of_run (K := K_MQ0a) (n := 5000) (keep := [5]) mixed K_MQ0a_ok (by kernel_rfl) (by as_aux_lemma => kernel_rfl)

noncomputable def S5664 : Sum := ⟨(.tup [(.so 5 0 1 4), (.agg [(uN 86), tx6, z0, (uN 0)]), bT]), 6, [q134]⟩
theorem S5664_ok : SumOk Tryz.prog 120 [tx66] S5664 := SumOk.of_run (K := K_MQ0a) (n := 5000) (keep := [5]) mixed K_MQ0a_ok (by kernel_rfl) (by as_aux_lemma => kernel_rfl)

noncomputable def S5636 : Sum := ⟨(.tup [(.so 5 0 1 4), (.agg [(uN 86), tx6, z0, (uN 0)]), bT]), 6, [q135]⟩
theorem S5636_ok : SumOk Tryz.prog 120 [tx67] S5636 := SumOk.of_run (K := K_MQ0a) (n := 5000) (keep := [5]) mixed K_MQ0a_ok (by kernel_rfl) (by as_aux_lemma => kernel_rfl)

noncomputable def S5609 : Sum := ⟨(.tup [(.so 5 0 1 4), (.agg [(uN 86), tx6, z0, (uN 0)]), bT]), 6, [q117]⟩
theorem S5609_ok : SumOk Tryz.prog 120 [tx68] S5609 := SumOk.of_run (K := K_MQ0a) (n := 5000) (keep := [5]) mixed K_MQ0a_ok (by kernel_rfl) (by as_aux_lemma => kernel_rfl)

noncomputable def S3898 : Sum := ⟨(.tup [(.so 5 0 1 4), (.agg [(uN 67), tx6, z0, (uN 0)]), bT]), 11, [q117]⟩
theorem S3898_ok : SumOk Tryz.prog 120 [tx75] S3898 := SumOk.of_run (K := K_MQ0a) (n := 5000) (keep := [5]) mixed K_MQ0a_ok (by kernel_rfl) (by as_aux_lemma => kernel_rfl)

noncomputable def S3876 : Sum := ⟨(.tup [.nils, (.agg [(uN 73), tx6, z0, (uN 0)]), bT]), 6, []⟩
theorem S3876_ok : SumOk Tryz.prog 120 [tx72] S3876 := SumOk.of_run (K := K_MQ0a) (n := 5000) (keep := []) mixed K_MQ0a_ok (by kernel_rfl) (by as_aux_lemma => kernel_rfl)

noncomputable def S3679 : Sum := ⟨(iN 22), 33, []⟩
theorem S3679_ok : SumOk Tryz.prog 257 [tx39, tx81, tx46] S3679 := SumOk.of_run (K := K_MQ0a) (n := 5000) (keep := []) mixed K_MQ0a_ok (by kernel_rfl) (by as_aux_lemma => kernel_rfl)

noncomputable def S3198 : Sum := ⟨(iN (-1)), 1, []⟩
theorem S3198_ok : SumOk Tryz.prog 360 [tx73, tx76] S3198 := SumOk.of_run (K := K_MQ0a) (n := 5000) (keep := []) mixed K_MQ0a_ok (by kernel_rfl) (by as_aux_lemma => kernel_rfl)

noncomputable def S3196 : Sum := ⟨(.tup [(.so 12 0 6 1), bT]), 13, [(12, (.cells 6 true [] (T.ofList 0 .leaf [(.int .u16 83), (.int .u16 116), (.int .u16 114), (.int .u16 105), (.int .u16 110), (.int .u16 103)])))]⟩
theorem S3196_ok : SumOk Tryz.prog 259 [tx73] S3196 := SumOk.of_run (K := K_MQ0a) (n := 5000) (keep := [12]) mixed K_MQ0a_ok (by kernel_rfl) (by as_aux_lemma => kernel_rfl)

noncomputable def S3153 : Sum := ⟨(.sl 0 0 3 3), 1, [(0, (.cells 3 false [tx6] (T.ofList 0 .leaf [tx83, tx84, tx73])))]⟩
theorem S3153_ok : SumOk Tryz.prog 410 [tx7, tx85, z0, (iN (-1))] S3153 := SumOk.of_run (K := K_MQ0a) (n := 5000) (keep := [0]) mixed K_MQ0a_ok (by kernel_rfl) (by as_aux_lemma => kernel_rfl)

noncomputable def S3129 : Sum := ⟨(iN 3), 9, []⟩
theorem S3129_ok : SumOk Tryz.prog 257 [tx0, tx62, tx35] S3129 := SumOk.of_run (K := K_MQ0a) (n := 5000) (keep := []) mixed K_MQ0a_ok (by kernel_rfl) (by as_aux_lemma => kernel_rfl)

noncomputable def S3102 : Sum := ⟨(iN (-1)), 1, []⟩
theorem S3102_ok : SumOk Tryz.prog 360 [tx74, tx76] S3102 := SumOk.of_run (K := K_MQ0a) (n := 5000) (keep := []) mixed K_MQ0a_ok (by kernel_rfl) (by as_aux_lemma => kernel_rfl)

noncomputable def S3100 : Sum := ⟨(.tup [(.so 12 0 6 1), bT]), 13, [(12, (.cells 6 true [] (T.ofList 0 .leaf [(.int .u16 79), (.int .u16 98), (.int .u16 106), (.int .u16 101), (.int .u16 99), (.int .u16 116)])))]⟩
theorem S3100_ok : SumOk Tryz.prog 259 [tx74] S3100 := SumOk.of_run (K := K_MQ0a) (n := 5000) (keep := [12]) mixed K_MQ0a_ok (by kernel_rfl) (by as_aux_lemma => kernel_rfl)

noncomputable def S3082 : Sum := ⟨bT, 10, []⟩
theorem S3082_ok : SumOk Tryz.prog 192 [tx84] S3082 := SumOk.of_run (K := K_MQ0a) (n := 5000) (keep := []) mixed K_MQ0a_ok (by kernel_rfl) (by as_aux_lemma => kernel_rfl)

noncomputable def S3065 : Sum := ⟨bT, 10, []⟩
theorem S3065_ok : SumOk Tryz.prog 192 [tx83] S3065 := SumOk.of_run (K := K_MQ0a) (n := 5000) (keep := []) mixed K_MQ0a_ok (by kernel_rfl) (by as_aux_lemma => kernel_rfl)

noncomputable def S3057 : Sum := ⟨(.sl 0 0 3 3), 1, [(0, (.cells 3 false [tx6] (T.ofList 0 .leaf [tx83, tx84, tx74])))]⟩
theorem S3057_ok : SumOk Tryz.prog 410 [tx0, tx85, z0, (iN (-1))] S3057 := SumOk.of_run (K := K_MQ0a) (n := 5000) (keep := [0]) mixed K_MQ0a_ok (by kernel_rfl) (by as_aux_lemma => kernel_rfl)

noncomputable def S3035 : Sum := ⟨z2, 8, []⟩
theorem S3035_ok : SumOk Tryz.prog 257 [tx0, tx69, tx47] S3035 := SumOk.of_run (K := K_MQ0a) (n := 5000) (keep := []) mixed K_MQ0a_ok (by kernel_rfl) (by as_aux_lemma => kernel_rfl)

noncomputable def S2638 : Sum := ⟨(.tup [tx0, (.so 14 0 8 3), bT]), 15, [(14, (.cells 24 true [] (T.ofList 0 .leaf [tx18, tx42, bF, tx49, tx41, bF, tx49, tx51, bF, tx49, tx52, bF, tx49, tx53, bF, tx49, tx54, bF, tx70, tx72, bF, tx62, tx35, bF])))]⟩
theorem S2638_ok : SumOk Tryz.prog 96 [tx1] S2638 := SumOk.of_run (K := K_MQ0a) (n := 5000) (keep := [14]) mixed K_MQ0a_ok (by kernel_rfl) (by as_aux_lemma => kernel_rfl)

noncomputable def S2629 : Sum := ⟨(.tup [tx0, (.so 10 0 10 3), bT]), 11, [(10, (.cells 30 true [] (T.ofList 0 .leaf [tx70, tx72, bF, tx78, tx75, bF, tx79, tx45, bF, tx69, tx47, bF, tx80, tx35, bF, tx62, tx35, bF, tx55, tx58, bT, tx55, tx59, bT, tx55, tx60, bT, tx55, tx61, bT])))]⟩
theorem S2629_ok : SumOk Tryz.prog 96 [tx7] S2629 := SumOk.of_run (K := K_MQ0a) (n := 5000) (keep := [10]) mixed K_MQ0a_ok (by kernel_rfl) (by as_aux_lemma => kernel_rfl)

noncomputable def S461 : Sum := ⟨(.so 28 0 13 3), 29, [(28, (.cells 39 true [] (T.ofList 0 .leaf [tx48, tx4, bF, tx48, tx68, bF, tx48, tx67, bF, tx48, tx66, bF, tx48, tx65, bF, tx48, tx43, bF, tx40, tx4, bF, tx40, tx68, bF, tx40, tx67, bF, tx40, tx66, bF, tx40, tx65, bF, tx40, tx43, bF, tx40, tx42, bF])))]⟩
theorem S461_ok : SumOk Tryz.prog 151 [tx3] S461 := SumOk.of_run (K := K_MQ0a) (n := 5000) (keep := [28]) mixed K_MQ0a_ok (by kernel_rfl) (by as_aux_lemma => kernel_rfl)

noncomputable def I92 : In := ⟨149, [(.so 163 0 33 1), z0, (iN 33), (iN 6)], 164, [(163, (.cells 33 true [] (T.ofList 0 .leaf [tx0, tx7, tx1, tx39, tx3, tx12, tx36, tx24, tx5, tx9, tx33, tx14, tx22, tx21, tx2, tx8, tx37, tx34, tx31, tx29, tx25, tx30, tx15, tx19, tx20, tx26, tx23, tx11, tx16, tx28, tx27, tx13, tx10])))], (.tup []), 168, [(163, (.cells 33 true [] (T.ofList 0 .leaf [tx3, tx25, tx26, tx11, tx27, tx28, tx21, tx33, tx24, tx36, tx15, tx29, tx13, tx2, tx9, tx30, tx8, tx16, tx22, tx34, tx31, tx23, tx0, tx20, tx5, tx19, tx7, tx1, tx10, tx39, tx12, tx14, tx37])))]⟩
theorem I92_ok : InOk Tryz.prog I92 := InOk.of_run (K := K_MQ0a) (n := 5000) mixed K_MQ0a_ok (by kernel_rfl) (by as_aux_lemma => kernel_rfl)

noncomputable def S8 : Sum := ⟨(.so 75 0 28 2), 76, [(75, (.cells 56 true [] (T.ofList 0 .leaf [tx12, tx0, tx36, tx12, tx24, tx12, tx5, tx36, tx9, tx5, tx33, tx8, tx14, tx8, tx22, tx8, tx21, tx8, tx2, tx8, tx8, tx24, tx37, tx8, tx34, tx2, tx31, tx2, tx29, tx2, tx25, tx2, tx30, tx2, tx15, tx8, tx19, tx24, tx20, tx24, tx26, tx5, tx23, tx5, tx11, tx9, tx16, tx5, tx28, tx5, tx27, tx5, tx13, tx5, tx10, tx9])))]⟩
theorem S8_ok : SumOk Tryz.prog 94 [] S8 := SumOk.of_run (K := K_MQ0a) (n := 5000) (keep := [75]) mixed K_MQ0a_ok (by kernel_rfl) (by as_aux_lemma => kernel_rfl)

noncomputable def tab_MQ0a : List (FuncId × SRows) := (94, [([], S8)]) :: (151, [([tx3], S461)]) :: (96, [([tx1], S2638), ([tx7], S2629)]) :: (410, [([tx7, tx85, z0, (iN (-1))], S3153), ([tx0, tx85, z0, (iN (-1))], S3057)]) :: (259, [([tx73], S3196), ([tx74], S3100)]) :: (257, [([tx39, tx81, tx46], S3679), ([tx0, tx62, tx35], S3129), ([tx0, tx69, tx47], S3035)]) :: (278, [([tx17], S13891)]) :: (283, [([tx57, tx76], S13918)]) :: (120, [([tx44], S13931), ([tx65], S5693), ([tx66], S5664), ([tx67], S5636), ([tx68], S5609), ([tx75], S3898), ([tx72], S3876)]) :: (192, [([tx50], S14023), ([tx84], S3082), ([tx83], S3065)]) :: (360, [([tx50, (.str 2 15932)], S14110), ([tx73, tx76], S3198), ([tx74, tx76], S3102)]) :: (227, [([(iN 184)], S14483), ([(iN 100)], S14477), ([(iN 172)], S14463), ([(iN 154)], S14452)]) :: (229, [([(iN 3)], S14790), ([(iN 184)], S14533), ([(iN 100)], S14528), ([(iN 172)], S14513), ([(iN 4)], S14508), ([(iN 154)], S14503)]) :: []
theorem tab_MQ0a_ok : TabOk Tryz.prog tab_MQ0a := (TabOk.cons (RowsOk.cons S8_ok RowsOk.nil) (TabOk.cons (RowsOk.cons S461_ok RowsOk.nil) (TabOk.cons (RowsOk.cons S2638_ok (RowsOk.cons S2629_ok RowsOk.nil)) (TabOk.cons (RowsOk.cons S3153_ok (RowsOk.cons S3057_ok RowsOk.nil)) (TabOk.cons (RowsOk.cons S3196_ok (RowsOk.cons S3100_ok RowsOk.nil)) (TabOk.cons (RowsOk.cons S3679_ok (RowsOk.cons S3129_ok (RowsOk.cons S3035_ok RowsOk.nil))) (TabOk.cons (RowsOk.cons S13891_ok RowsOk.nil) (TabOk.cons (RowsOk.cons S13918_ok RowsOk.nil) (TabOk.cons (RowsOk.cons S13931_ok (RowsOk.cons S5693_ok (RowsOk.cons S5664_ok (RowsOk.cons S5636_ok (RowsOk.cons S5609_ok (RowsOk.cons S3898_ok (RowsOk.cons S3876_ok RowsOk.nil))))))) (TabOk.cons (RowsOk.cons S14023_ok (RowsOk.cons S3082_ok (RowsOk.cons S3065_ok RowsOk.nil))) (TabOk.cons (RowsOk.cons S14110_ok (RowsOk.cons S3198_ok (RowsOk.cons S3102_ok RowsOk.nil))) (TabOk.cons (RowsOk.cons S14483_ok (RowsOk.cons S14477_ok (RowsOk.cons S14463_ok (RowsOk.cons S14452_ok RowsOk.nil)))) (TabOk.cons (RowsOk.cons S14790_ok (RowsOk.cons S14533_ok (RowsOk.cons S14528_ok (RowsOk.cons S14513_ok (RowsOk.cons S14508_ok (RowsOk.cons S14503_ok RowsOk.nil)))))) TabOk.nil)))))))))))))
noncomputable def H_MQ0a : Hand := (((Hand.at 149 (inHand I92)).or ((Hand.at 145 (inHand I6703)).or (Hand.at 56 (Hand.sp 17163 (Hand.sp 16665 (inHand I15657) ((inHand I15879).or (inHand I15705))) (Hand.sp 17229 (inHand I16108) ((inHand I16329).or (inHand I16156))))))).or (sumsHand tab_MQ0a))
theorem H_MQ0a_ok : HandOk Tryz.prog H_MQ0a := (HandOk.or (HandOk.or (HandOk.at 149 (inHand_ok I92_ok (by kernel_rfl))) (HandOk.or (HandOk.at 145 (inHand_ok I6703_ok (by kernel_rfl))) (HandOk.at 56 (HandOk.sp 17163 (HandOk.sp 16665 (inHand_ok I15657_ok (by kernel_rfl)) (HandOk.or (inHand_ok I15879_ok (by kernel_rfl)) (inHand_ok I15705_ok (by kernel_rfl)))) (HandOk.sp 17229 (inHand_ok I16108_ok (by kernel_rfl)) (HandOk.or (inHand_ok I16329_ok (by kernel_rfl)) (inHand_ok I16156_ok (by kernel_rfl)))))))) (sumsHand_ok tab_MQ0a_ok))
end Go.Proofs.YtfkfmjlppllfoaaGreatDoor.mq
