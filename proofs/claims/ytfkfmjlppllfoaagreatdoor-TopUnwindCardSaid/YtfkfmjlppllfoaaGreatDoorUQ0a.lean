/-
  Contracts of calls, by the kernel.
-/
import Derived.Test.YtfkfmjlppllfoaaGreatDoorUNN
import Derived.Test.YtfkfmjlppllfoaaGreatDoorXN3
import Derived.Test.YtfkfmjlppllfoaaGreatDoorProg
import Derived.KernelRfl
set_option linter.unusedSectionVars false
set_option linter.unusedVariables false
set_option maxRecDepth 1000000
set_option maxHeartbeats 0
namespace Go.Proofs.YtfkfmjlppllfoaaGreatDoor.uq
open Go.X Go.RowKit
noncomputable abbrev q0 : Nat × Blk := (7242, (.map [(tx0, (pN 7439), 0), (tx26, (pN 7587), 1), (tx27, (pN 7696), 2), (tx16, (pN 7807), 3), (tx28, (pN 7921), 4), (tx29, (pN 8034), 5), (tx23, (pN 8131), 6), (tx35, (pN 8225), 7), (tx20, (pN 8316), 8), (tx14, (pN 8406), 9), (tx21, (pN 8512), 10), (tx30, (pN 8615), 11), (tx18, (pN 8730), 12), (tx7, (pN 8828), 13), (tx13, (pN 8921), 14), (tx31, (pN 9026), 15), (tx12, (pN 9125), 16), (tx22, (pN 9237), 17), (tx24, (pN 9333), 18), (tx36, (pN 9434), 19), (tx33, (pN 9536), 20), (tx25, (pN 9646), 21), (tx3, (pN 9657), 22), (tx10, (pN 9768), 23), (tx2, (pN 9860), 24), (tx9, (pN 9967), 25), (tx4, (pN 9988), 26), (tx1, (pN 10045), 27), (tx15, (pN 10185), 28), (tx44, (pN 10197), 29), (tx6, (pN 10285), 30), (tx19, (pN 10385), 31), (tx39, (pN 10485), 32)] 33))
noncomputable abbrev q1 : Nat × Blk := (7243, (.cells 3 false [] (T.ofList 0 .leaf [(.map 7241), (.map 7242), (.so 15583 0 1 1)])))
noncomputable abbrev q2 : Nat × Blk := (8406, (.cells 8 false [] (T.ofList 0 .leaf [(iN 52), .nils, (iN 33), tx14, tx6, .nils, .nils, (.so 8415 0 2 9)])))
noncomputable abbrev q3 : Nat × Blk := (9657, (.cells 8 false [] (T.ofList 0 .leaf [(iN 52), .nils, (iN 33), tx3, tx11, .nils, .nils, (.so 9669 0 3 9)])))
noncomputable abbrev q4 : Nat × Blk := (9860, (.cells 8 false [] (T.ofList 0 .leaf [(iN 52), .nils, (iN 33), tx2, tx14, .nils, .nils, (.so 9869 0 2 9)])))
noncomputable abbrev q5 : Nat × Blk := (10285, (.cells 8 false [] (T.ofList 0 .leaf [(iN 52), .nils, (iN 33), tx6, tx3, .nils, (.sl 10299 0 1 1), (.so 10298 0 3 9)])))
noncomputable abbrev q6 : Nat × Blk := (14138, (.cells 8 false [] (T.ofList 0 .leaf [(iN 52), (.sl 14140 0 17 17), (iN 33), tx51, tx3, .nils, .nils, (.so 15581 0 1 9)])))
noncomputable abbrev q7 : Nat × Blk := (14140, (.cells 85 false [z0, tx11, z0, z0, z0] (ofPairs [(5, z1), (6, tx2), (7, z0), (8, z0), (9, z0), (10, (iN 7)), (11, tx11), (12, z0), (13, z1), (14, z0), (15, z1), (16, tx8), (17, z0), (18, z0), (19, z0), (20, z1), (21, tx32), (22, z0), (23, z0), (24, z0), (25, (iN 12)), (26, tx11), (27, z0), (28, (iN 3)), (29, (iN 4)), (30, (iN 10)), (31, tx11), (32, z0), (33, z2), (34, (iN 5)), (35, z1), (36, tx51), (37, z0), (38, z0), (39, z0), (40, (iN 7)), (41, tx11), (42, z0), (43, (iN 7)), (44, z0), (45, z1), (46, tx65), (47, z0), (48, z0), (49, z0), (50, z1), (51, tx60), (52, z0), (53, z0), (54, z0), (55, (iN 12)), (56, tx11), (57, z0), (58, (iN 9)), (59, (iN 10)), (60, (iN 10)), (61, tx11), (62, z0), (63, (iN 8)), (64, (iN 11)), (65, z1), (66, tx67), (67, z0), (68, z0), (69, z0), (70, z1), (71, tx83), (72, z0), (73, z0), (74, z0), (75, z1), (76, tx3), (77, z0), (78, z0), (79, z0), (80, (iN 7)), (81, tx11), (82, z0), (83, (iN 15)), (84, z0)])))
noncomputable abbrev q8 : Nat × Blk := (14709, (.cells 36 true [] (T.ofList 0 .leaf [(uN 26), (uN 157), (uN 0), (uN 11), (uN 187), (uN 0), (uN 2), (uN 89), (uN 183), (uN 0), (uN 6), (uN 191), (uN 26), (uN 4), (uN 100), (uN 27), (uN 184), (uN 0), (uN 12), (uN 172), (uN 87), (uN 26), (uN 27), (uN 160), (uN 0), (uN 5), (uN 26), (uN 172), (uN 187), (uN 0), (uN 2), (uN 89), (uN 183), (uN 0), (uN 6), (uN 191)])))
noncomputable abbrev q9 : Nat × Blk := (15514, (.cells 4 true [] (T.ofList 0 .leaf [(iN 12), (iN 20), (iN 20), z2])))
noncomputable abbrev q10 : Nat × Blk := (15538, (.cells 6 true [] (T.ofList 0 .leaf [z1, tx11, z0, z1, tx11, z0])))
noncomputable abbrev q11 : Nat × Blk := (15553, (.cells 6 true [] (T.ofList 0 .leaf [z1, tx11, z0, z1, tx11, z0])))
noncomputable abbrev q12 : Nat × Blk := (15558, (.cells 3 true [] (T.ofList 0 .leaf [(iN 7), tx11, z2])))
noncomputable abbrev q13 : Nat × Blk := (15573, (.cells 6 true [] (T.ofList 0 .leaf [z1, tx11, z0, z1, tx11, z0])))
noncomputable abbrev q14 : Nat × Blk := (15576, (.cells 12 true [] (T.ofList 0 .leaf [(iN 255), (iN 12), (.so 15538 0 2 3), .nils, (iN 255), (iN 7), (.so 15553 0 2 3), (.so 15558 0 1 3), (iN 255), (iN 7), (.so 15573 0 2 3), .nils])))
noncomputable abbrev q15 : Nat × Blk := (15581, (.cells 9 true [] (T.ofList 0 .leaf [(iN 9), tx65, tx60, bT, (iN 3), z2, (.so 14709 0 36 1), (.so 15514 0 1 4), (.so 15576 0 3 4)])))
noncomputable abbrev q16 : Nat × Blk := (14707, (.cells 8 false [] (T.ofList 0 .leaf [(.sl 14140 0 17 17), (iN 52), (iN 3), z2, (.so 14709 0 36 1), .nils, .nils, (.map 14706)])))
noncomputable abbrev q17 : Nat × Blk := (14136, (.cells 256 true [] (T.ofList 0 .leaf [(uN 0), (uN 17), (uN 1), (uN 0), (uN 26), (uN 106), (uN 97), (uN 118), (uN 97), (uN 47), (uN 108), (uN 97), (uN 110), (uN 103), (uN 47), (uN 82), (uN 117), (uN 110), (uN 116), (uN 105), (uN 109), (uN 101), (uN 69), (uN 120), (uN 99), (uN 101), (uN 112), (uN 116), (uN 105), (uN 111), (uN 110), (uN 7), (uN 0), (uN 1), (uN 1), (uN 0), (uN 6), (uN 60), (uN 105), (uN 110), (uN 105), (uN 116), (uN 62), (uN 1), (uN 0), (uN 3), (uN 40), (uN 41), (uN 86), (uN 12), (uN 0), (uN 3), (uN 0), (uN 4), (uN 10), (uN 0), (uN 2), (uN 0), (uN 5), (uN 1), (uN 0), (uN 1), (uN 77), (uN 7), (uN 0), (uN 7), (uN 1), (uN 0), (uN 2), (uN 103), (uN 111), (uN 1), (uN 0), (uN 5), (uN 40), (uN 73), (uN 73), (uN 41), (uN 73), (uN 12), (uN 0), (uN 9), (uN 0), (uN 10), (uN 10), (uN 0), (uN 8), (uN 0), (uN 11), (uN 1), (uN 0), (uN 13), (uN 83), (uN 116), (uN 97), (uN 99), (uN 107), (uN 77), (uN 97), (uN 112), (uN 84), (uN 97), (uN 98), (uN 108), (uN 101), (uN 1), (uN 0), (uN 4), (uN 67), (uN 111), (uN 100), (uN 101), (uN 1), (uN 0), (uN 16), (uN 106), (uN 97), (uN 118), (uN 97), (uN 47), (uN 108), (uN 97), (uN 110), (uN 103), (uN 47), (uN 79), (uN 98), (uN 106), (uN 101), (uN 99), (uN 116), (uN 7), (uN 0), (uN 15), (uN 0), (uN 33), (uN 0), (uN 8), (uN 0), (uN 16), (uN 0), (uN 0), (uN 0), (uN 0), (uN 0), (uN 1), (uN 0), (uN 9), (uN 0), (uN 9), (uN 0), (uN 10), (uN 0), (uN 1), (uN 0), (uN 14), (uN 0), (uN 0), (uN 0), (uN 94), (uN 0), (uN 3), (uN 0), (uN 2), (uN 0), (uN 0), (uN 0), (uN 36), (uN 26), (uN 157), (uN 0), (uN 11), (uN 187), (uN 0), (uN 2), (uN 89), (uN 183), (uN 0), (uN 6), (uN 191), (uN 26), (uN 4), (uN 100), (uN 27), (uN 184), (uN 0), (uN 12), (uN 172), (uN 87), (uN 26), (uN 27), (uN 160), (uN 0), (uN 5), (uN 26), (uN 172), (uN 187), (uN 0), (uN 2), (uN 89), (uN 183), (uN 0), (uN 6), (uN 191), (uN 0), (uN 1), (uN 0), (uN 12), (uN 0), (uN 20), (uN 0), (uN 20), (uN 0), (uN 2), (uN 0), (uN 1), (uN 0), (uN 13), (uN 0), (uN 0), (uN 0), (uN 32), (uN 0), (uN 3), (uN 255), (uN 0), (uN 12), (uN 0), (uN 2), (uN 1), (uN 1), (uN 0), (uN 0), (uN 255), (uN 0), (uN 7), (uN 0), (uN 2), (uN 1), (uN 1), (uN 0), (uN 1), (uN 7), (uN 0), (uN 2), (uN 255), (uN 0), (uN 7), (uN 0), (uN 2), (uN 1), (uN 1), (uN 0), (uN 0), (uN 0), (uN 0)])))
noncomputable abbrev q18 : Nat × Blk := (7243, (.cells 3 false [] (T.ofList 0 .leaf [(.map 7241), (.map 7242), .nils])))
noncomputable abbrev q19 : Nat × Blk := (7439, (.cells 8 false [] (T.ofList 0 .leaf [(iN 52), .nils, (iN 49), tx0, tx3, .nils, .nils, (.so 7492 0 13 9)])))
noncomputable abbrev q20 : Nat × Blk := (8316, (.cells 8 false [] (T.ofList 0 .leaf [(iN 52), .nils, (iN 33), tx20, tx6, .nils, .nils, (.so 8325 0 2 9)])))
noncomputable abbrev q21 : Nat × Blk := (9768, (.cells 8 false [] (T.ofList 0 .leaf [(iN 52), .nils, (iN 33), tx10, tx20, .nils, .nils, (.so 9777 0 2 9)])))
noncomputable abbrev q22 : Nat × Blk := (9967, (.cells 8 false [] (T.ofList 0 .leaf [(iN 52), .nils, (iN 33), tx9, tx20, .nils, .nils, (.so 9976 0 2 9)])))
noncomputable abbrev q23 : Nat × Blk := (10299, (.cells 4 false [] (T.ofList 0 .leaf [z2, tx68, tx52, z0])))
noncomputable abbrev q24 : Nat × Blk := (10495, (.map [(tx0, z0, 0), (tx9, z1, 1), (tx10, z2, 2)] 3))
noncomputable abbrev q25 : Nat × Blk := (10496, (.cells 5 false [] (T.ofList 0 .leaf [(pN 7243), (.so 14064 0 8 1), (.so 14066 0 3 1), (.so 14063 0 3 3), (.map 10495)])))
noncomputable abbrev q26 : Nat × Blk := (10501, (.cells 3 false [] (T.ofList 0 .leaf [(pN 7243), (.map 10499), (.map 10500)])))
noncomputable abbrev q27 : Nat × Blk := (10502, (.cells 7 false [] (T.ofList 0 .leaf [(pN 10496), (pN 10498), (pN 7243), (.so 11216 0 39 3), .nils, bF, bF])))
noncomputable abbrev q28 : Nat × Blk := (11216, (.cells 117 true [] (T.ofList 0 .leaf [tx11, z0, .nilf, tx3, z1, (.fn (.func 155) [] []), tx3, z2, (.fn (.func 156) [] []), tx3, z1, (.fn (.func 157) [] []), tx4, z1, (.fn (.func 161) [] []), tx4, z2, (.fn (.func 162) [] []), tx4, z2, (.fn (.func 163) [] []), tx4, z2, (.fn (.func 164) [] []), tx4, z1, (.fn (.func 165) [] []), tx4, z1, (.fn (.func 166) [] []), tx11, z1, (.fn (.func 167) [] [(pN 11710)]), tx11, z1, (.fn (.func 167) [] [(pN 11783)]), tx11, z1, (.fn (.func 167) [] [(pN 11857)]), tx11, z1, (.fn (.func 167) [] [(pN 11932)]), tx1, z1, (.fn (.func 170) [] []), tx1, z2, (.fn (.func 171) [] [(pN 12044)]), tx1, z2, (.fn (.func 171) [] [(pN 12176)]), tx1, z2, (.fn (.func 171) [] [(pN 12274)]), tx1, z2, (.fn (.func 171) [] [(pN 12373)]), tx1, z2, (.fn (.func 171) [] [(pN 12473)]), tx1, z1, (.fn (.func 175) [] []), tx1, z1, (.fn (.func 176) [] []), tx11, (iN 5), (.fn (.func 160) [] []), tx0, z2, (.fn (.func 177) [] [(pN 12705), (pN 12703)]), tx0, z2, (.fn (.func 177) [] [(pN 12811), (pN 12703)]), tx0, z2, (.fn (.func 177) [] [(pN 12883), (pN 12703)]), tx0, z2, (.fn (.func 177) [] [(pN 12956), (pN 12703)]), tx0, z2, (.fn (.func 177) [] [(pN 13030), (pN 12703)]), tx0, z2, (.fn (.func 177) [] [(pN 13105), (pN 12703)]), tx0, z2, (.fn (.func 177) [] [(pN 13218), (pN 13216)]), tx0, z2, (.fn (.func 177) [] [(pN 13330), (pN 13216)]), tx0, z2, (.fn (.func 177) [] [(pN 13408), (pN 13216)]), tx0, z2, (.fn (.func 177) [] [(pN 13487), (pN 13216)]), tx0, z2, (.fn (.func 177) [] [(pN 13567), (pN 13216)]), tx0, z2, (.fn (.func 177) [] [(pN 13648), (pN 13216)]), tx0, z1, (.fn (.func 179) [] []), tx6, z1, (.fn (.func 155) [] []), tx6, z2, (.fn (.func 158) [] []), tx6, z1, (.fn (.func 159) [] [])])))
noncomputable abbrev q29 : Nat × Blk := (13842, (.cells 4 false [] (T.ofList 0 .leaf [.nils, .nils, .nils, z0])))
noncomputable abbrev q30 : Nat × Blk := (13846, (.cells 32 false [] (T.ofList 0 .leaf [(pN 7243), (pN 10501), (pN 10496), (pN 10498), (pN 10502), (pN 13842), .nils, (.map 13843), (.map 13844), .nils, z1, (iN 3), (iN 6), z0, .nilp, bF, z0, z0, z0, z0, z0, z0, (uN 0), z0, tx11, tx11, bF, z0, .nils, z0, z0, (.map 13845)])))
noncomputable abbrev q31 : Nat × Blk := (14063, (.cells 9 true [] (T.ofList 0 .leaf [tx0, .nils, (uN 0), tx9, (.so 13965 0 1 1), (uN 0), tx10, (.so 14061 0 1 1), (uN 0)])))
noncomputable abbrev q32 : Nat × Blk := (14064, (.cells 8 true [] (T.ofList 0 .leaf [(.int .u64 0), (.int .u64 0), (.int .u64 1), (.int .u64 0), (.int .u64 0), (.int .u64 2), (.int .u64 0), (.int .u64 0)])))
noncomputable abbrev q33 : Nat × Blk := (14066, (.cells 3 true [] (T.ofList 0 .leaf [z0, z2, (iN 5)])))
noncomputable abbrev q34 : Nat × Blk := (6902, (.cells 29 true [] (T.ofList 0 .leaf [(uN 1), (uN 0), (uN 26), (uN 106), (uN 97), (uN 118), (uN 97), (uN 47), (uN 108), (uN 97), (uN 110), (uN 103), (uN 47), (uN 82), (uN 117), (uN 110), (uN 116), (uN 105), (uN 109), (uN 101), (uN 69), (uN 120), (uN 99), (uN 101), (uN 112), (uN 116), (uN 105), (uN 111), (uN 110)])))
noncomputable abbrev q35 : Nat × Blk := (6911, (.cells 3 true [] (T.ofList 0 .leaf [(uN 7), (uN 0), (uN 1)])))
noncomputable abbrev q36 : Nat × Blk := (6932, (.cells 9 true [] (T.ofList 0 .leaf [(uN 1), (uN 0), (uN 6), (uN 60), (uN 105), (uN 110), (uN 105), (uN 116), (uN 62)])))
noncomputable abbrev q37 : Nat × Blk := (6942, (.cells 6 true [] (T.ofList 0 .leaf [(uN 1), (uN 0), (uN 3), (uN 40), (uN 41), (uN 86)])))
noncomputable abbrev q38 : Nat × Blk := (6953, (.cells 5 true [] (T.ofList 0 .leaf [(uN 12), (uN 0), (uN 3), (uN 0), (uN 4)])))
noncomputable abbrev q39 : Nat × Blk := (6965, (.cells 5 true [] (T.ofList 0 .leaf [(uN 10), (uN 0), (uN 2), (uN 0), (uN 5)])))
noncomputable abbrev q40 : Nat × Blk := (6988, (.cells 4 true [] (T.ofList 0 .leaf [(uN 1), (uN 0), (uN 1), (uN 77)])))
noncomputable abbrev q41 : Nat × Blk := (6997, (.cells 3 true [] (T.ofList 0 .leaf [(uN 7), (uN 0), (uN 7)])))
noncomputable abbrev q42 : Nat × Blk := (7007, (.cells 5 true [] (T.ofList 0 .leaf [(uN 1), (uN 0), (uN 2), (uN 103), (uN 111)])))
noncomputable abbrev q43 : Nat × Blk := (7017, (.cells 8 true [] (T.ofList 0 .leaf [(uN 1), (uN 0), (uN 5), (uN 40), (uN 73), (uN 73), (uN 41), (uN 73)])))
noncomputable abbrev q44 : Nat × Blk := (7028, (.cells 5 true [] (T.ofList 0 .leaf [(uN 12), (uN 0), (uN 9), (uN 0), (uN 10)])))
noncomputable abbrev q45 : Nat × Blk := (7040, (.cells 5 true [] (T.ofList 0 .leaf [(uN 10), (uN 0), (uN 8), (uN 0), (uN 11)])))
noncomputable abbrev q46 : Nat × Blk := (7210, (.cells 16 true [] (T.ofList 0 .leaf [(uN 1), (uN 0), (uN 13), (uN 83), (uN 116), (uN 97), (uN 99), (uN 107), (uN 77), (uN 97), (uN 112), (uN 84), (uN 97), (uN 98), (uN 108), (uN 101)])))
noncomputable abbrev q47 : Nat × Blk := (7227, (.cells 7 true [] (T.ofList 0 .leaf [(uN 1), (uN 0), (uN 4), (uN 67), (uN 111), (uN 100), (uN 101)])))
noncomputable abbrev q48 : Nat × Blk := (7239, (.cells 108 true [] (T.ofList 0 .leaf [(uN 0), (uN 9), (uN 0), (uN 9), (uN 0), (uN 10), (uN 0), (uN 1), (uN 0), (uN 14), (uN 0), (uN 0), (uN 0), (uN 94), (uN 0), (uN 3), (uN 0), (uN 2), (uN 0), (uN 0), (uN 0), (uN 36), (uN 26), (uN 157), (uN 0), (uN 11), (uN 187), (uN 0), (uN 2), (uN 89), (uN 183), (uN 0), (uN 6), (uN 191), (uN 26), (uN 4), (uN 100), (uN 27), (uN 184), (uN 0), (uN 12), (uN 172), (uN 87), (uN 26), (uN 27), (uN 160), (uN 0), (uN 5), (uN 26), (uN 172), (uN 187), (uN 0), (uN 2), (uN 89), (uN 183), (uN 0), (uN 6), (uN 191), (uN 0), (uN 1), (uN 0), (uN 12), (uN 0), (uN 20), (uN 0), (uN 20), (uN 0), (uN 2), (uN 0), (uN 1), (uN 0), (uN 13), (uN 0), (uN 0), (uN 0), (uN 32), (uN 0), (uN 3), (uN 255), (uN 0), (uN 12), (uN 0), (uN 2), (uN 1), (uN 1), (uN 0), (uN 0), (uN 255), (uN 0), (uN 7), (uN 0), (uN 2), (uN 1), (uN 1), (uN 0), (uN 1), (uN 7), (uN 0), (uN 2), (uN 255), (uN 0), (uN 7), (uN 0), (uN 2), (uN 1), (uN 1), (uN 0), (uN 0)])))
noncomputable abbrev q49 : Nat × Blk := (3256, (.cells 5 false [] (T.ofList 0 .leaf [(pN 3), (.so 6824 0 8 1), (.so 6826 0 3 1), (.so 6823 0 3 3), (.map 3255)])))
noncomputable abbrev q50 : Nat × Blk := (6823, (.cells 9 true [] (T.ofList 0 .leaf [tx0, .nils, (uN 0), tx9, (.so 6725 0 1 1), (uN 0), tx10, (.so 6821 0 1 1), (uN 0)])))
noncomputable abbrev q51 : Nat × Blk := (6824, (.cells 8 true [] (T.ofList 0 .leaf [(.int .u64 0), (.int .u64 0), (.int .u64 1), (.int .u64 0), (.int .u64 0), (.int .u64 2), (.int .u64 0), (.int .u64 0)])))
noncomputable abbrev q52 : Nat × Blk := (6826, (.cells 3 true [] (T.ofList 0 .leaf [z0, z2, (iN 5)])))
noncomputable abbrev q53 : Nat × Blk := (6842, (.map [(z1, z1, 0), ((iN 3), z1, 1), ((iN 6), z1, 2)] 3))
noncomputable abbrev q54 : Nat × Blk := (40, (.cells 4 true [] (T.ofList 0 .leaf [(uN 76), tx3, z0, (uN 0)])))
noncomputable abbrev q55 : Nat × Blk := (5, (.cells 4 true [] (T.ofList 0 .leaf [(uN 90), tx11, z0, (uN 0)])))
noncomputable abbrev q56 : Nat × Blk := (5, (.cells 4 true [] (T.ofList 0 .leaf [(uN 67), tx11, z0, (uN 0)])))
noncomputable abbrev q57 : Nat × Blk := (5, (.cells 4 true [] (T.ofList 0 .leaf [(uN 74), tx11, z0, (uN 0)])))
noncomputable abbrev q58 : Nat × Blk := (5, (.cells 4 true [] (T.ofList 0 .leaf [(uN 73), tx11, z0, (uN 0)])))
noncomputable abbrev q59 : Nat × Blk := (40, (.cells 4 true [] (T.ofList 0 .leaf [(uN 76), tx4, z0, (uN 0)])))
noncomputable abbrev q60 : Nat × Blk := (2, (.map [(tx0, (pN 199), 0), (tx26, (pN 347), 1), (tx27, (pN 456), 2), (tx16, (pN 567), 3), (tx28, (pN 681), 4), (tx29, (pN 794), 5), (tx23, (pN 891), 6), (tx35, (pN 985), 7), (tx20, (pN 1076), 8), (tx14, (pN 1166), 9), (tx21, (pN 1272), 10), (tx30, (pN 1375), 11), (tx18, (pN 1490), 12), (tx7, (pN 1588), 13), (tx13, (pN 1681), 14), (tx31, (pN 1786), 15), (tx12, (pN 1885), 16), (tx22, (pN 1997), 17), (tx24, (pN 2093), 18), (tx36, (pN 2194), 19), (tx33, (pN 2296), 20), (tx25, (pN 2406), 21), (tx3, (pN 2417), 22), (tx10, (pN 2528), 23), (tx2, (pN 2620), 24), (tx9, (pN 2727), 25), (tx4, (pN 2748), 26), (tx1, (pN 2805), 27), (tx15, (pN 2945), 28), (tx44, (pN 2957), 29), (tx6, (pN 3045), 30), (tx19, (pN 3145), 31), (tx39, (pN 3245), 32)] 33))
noncomputable abbrev q61 : Nat × Blk := (3, (.cells 3 false [] (T.ofList 0 .leaf [(.map 1), (.map 2), .nils])))
noncomputable abbrev q62 : Nat × Blk := (199, (.cells 8 false [] (T.ofList 0 .leaf [(iN 52), .nils, (iN 49), tx0, tx3, .nils, .nils, (.so 252 0 13 9)])))
noncomputable abbrev q63 : Nat × Blk := (1076, (.cells 8 false [] (T.ofList 0 .leaf [(iN 52), .nils, (iN 33), tx20, tx6, .nils, .nils, (.so 1085 0 2 9)])))
noncomputable abbrev q64 : Nat × Blk := (2417, (.cells 8 false [] (T.ofList 0 .leaf [(iN 52), .nils, (iN 33), tx3, tx11, .nils, .nils, (.so 2429 0 3 9)])))
noncomputable abbrev q65 : Nat × Blk := (2528, (.cells 8 false [] (T.ofList 0 .leaf [(iN 52), .nils, (iN 33), tx10, tx20, .nils, .nils, (.so 2537 0 2 9)])))
noncomputable abbrev q66 : Nat × Blk := (2727, (.cells 8 false [] (T.ofList 0 .leaf [(iN 52), .nils, (iN 33), tx9, tx20, .nils, .nils, (.so 2736 0 2 9)])))
noncomputable abbrev q67 : Nat × Blk := (3045, (.cells 8 false [] (T.ofList 0 .leaf [(iN 52), .nils, (iN 33), tx6, tx3, .nils, (.sl 3059 0 1 1), (.so 3058 0 3 9)])))
noncomputable abbrev q68 : Nat × Blk := (3059, (.cells 4 false [] (T.ofList 0 .leaf [z2, tx68, tx52, z0])))
theorem mixed : Tryz.prog.follows .mixedOrders = true := by kernel_rfl
variable [Tab]
noncomputable def K_UQ0a : Hand := Hand.none
theorem K_UQ0a_ok : HandOk Tryz.prog K_UQ0a := HandOk.none

noncomputable def S14784 : Sum := ⟨(.tup [(uN 0), bF]), 13, []⟩
theorem S14784_ok : SumOk Tryz.prog 229 [(iN 160)] S14784 := SumOk.of_run (K := K_UQ0a) (n := 5000) (keep := []) mixed K_UQ0a_ok (by kernel_rfl) (by as_aux_lemma => kernel_rfl)

noncomputable def S14769 : Sum := ⟨(.tup [(uN 0), bF]), 13, []⟩
theorem S14769_ok : SumOk Tryz.prog 229 [(iN 87)] S14769 := SumOk.of_run (K := K_UQ0a) (n := 5000) (keep := []) mixed K_UQ0a_ok (by kernel_rfl) (by as_aux_lemma => kernel_rfl)

noncomputable def S14764 : Sum := ⟨(.tup [(uN 0), bF]), 13, []⟩
theorem S14764_ok : SumOk Tryz.prog 229 [(iN 172)] S14764 := SumOk.of_run (K := K_UQ0a) (n := 5000) (keep := []) mixed K_UQ0a_ok (by kernel_rfl) (by as_aux_lemma => kernel_rfl)

noncomputable def S14745 : Sum := ⟨(.tup [(uN 0), bF]), 13, []⟩
theorem S14745_ok : SumOk Tryz.prog 229 [(iN 184)] S14745 := SumOk.of_run (K := K_UQ0a) (n := 5000) (keep := []) mixed K_UQ0a_ok (by kernel_rfl) (by as_aux_lemma => kernel_rfl)

noncomputable def S14735 : Sum := ⟨(.tup [(uN 0), bF]), 13, []⟩
theorem S14735_ok : SumOk Tryz.prog 229 [(iN 100)] S14735 := SumOk.of_run (K := K_UQ0a) (n := 5000) (keep := []) mixed K_UQ0a_ok (by kernel_rfl) (by as_aux_lemma => kernel_rfl)

noncomputable def S14730 : Sum := ⟨(.tup [(uN 0), bF]), 13, []⟩
theorem S14730_ok : SumOk Tryz.prog 229 [(iN 4)] S14730 := SumOk.of_run (K := K_UQ0a) (n := 5000) (keep := []) mixed K_UQ0a_ok (by kernel_rfl) (by as_aux_lemma => kernel_rfl)

noncomputable def S14720 : Sum := ⟨(.tup [(uN 0), bF]), 13, []⟩
theorem S14720_ok : SumOk Tryz.prog 229 [(iN 191)] S14720 := SumOk.of_run (K := K_UQ0a) (n := 5000) (keep := []) mixed K_UQ0a_ok (by kernel_rfl) (by as_aux_lemma => kernel_rfl)

noncomputable def S14701 : Sum := ⟨(.tup [(uN 0), bF]), 13, []⟩
theorem S14701_ok : SumOk Tryz.prog 229 [(iN 183)] S14701 := SumOk.of_run (K := K_UQ0a) (n := 5000) (keep := []) mixed K_UQ0a_ok (by kernel_rfl) (by as_aux_lemma => kernel_rfl)

noncomputable def S14696 : Sum := ⟨(.tup [(uN 0), bF]), 13, []⟩
theorem S14696_ok : SumOk Tryz.prog 229 [(iN 89)] S14696 := SumOk.of_run (K := K_UQ0a) (n := 5000) (keep := []) mixed K_UQ0a_ok (by kernel_rfl) (by as_aux_lemma => kernel_rfl)

noncomputable def S14681 : Sum := ⟨(.tup [(uN 0), bF]), 13, []⟩
theorem S14681_ok : SumOk Tryz.prog 229 [(iN 187)] S14681 := SumOk.of_run (K := K_UQ0a) (n := 5000) (keep := []) mixed K_UQ0a_ok (by kernel_rfl) (by as_aux_lemma => kernel_rfl)

noncomputable def S14676 : Sum := ⟨(.tup [(uN 0), bF]), 13, []⟩
theorem S14676_ok : SumOk Tryz.prog 229 [(iN 157)] S14676 := SumOk.of_run (K := K_UQ0a) (n := 5000) (keep := []) mixed K_UQ0a_ok (by kernel_rfl) (by as_aux_lemma => kernel_rfl)

noncomputable def S14626 : Sum := ⟨bT, 18, []⟩
theorem S14626_ok : SumOk Tryz.prog 227 [(iN 160)] S14626 := SumOk.of_run (K := K_UQ0a) (n := 5000) (keep := []) mixed K_UQ0a_ok (by kernel_rfl) (by as_aux_lemma => kernel_rfl)

noncomputable def S14612 : Sum := ⟨bT, 9, []⟩
theorem S14612_ok : SumOk Tryz.prog 227 [(iN 87)] S14612 := SumOk.of_run (K := K_UQ0a) (n := 5000) (keep := []) mixed K_UQ0a_ok (by kernel_rfl) (by as_aux_lemma => kernel_rfl)

noncomputable def S14606 : Sum := ⟨bT, 19, []⟩
theorem S14606_ok : SumOk Tryz.prog 227 [(iN 172)] S14606 := SumOk.of_run (K := K_UQ0a) (n := 5000) (keep := []) mixed K_UQ0a_ok (by kernel_rfl) (by as_aux_lemma => kernel_rfl)

noncomputable def S14599 : Sum := ⟨bT, 20, []⟩
theorem S14599_ok : SumOk Tryz.prog 227 [(iN 184)] S14599 := SumOk.of_run (K := K_UQ0a) (n := 5000) (keep := []) mixed K_UQ0a_ok (by kernel_rfl) (by as_aux_lemma => kernel_rfl)

noncomputable def S14589 : Sum := ⟨bT, 10, []⟩
theorem S14589_ok : SumOk Tryz.prog 227 [(iN 100)] S14589 := SumOk.of_run (K := K_UQ0a) (n := 5000) (keep := []) mixed K_UQ0a_ok (by kernel_rfl) (by as_aux_lemma => kernel_rfl)

noncomputable def S14575 : Sum := ⟨bT, 21, []⟩
theorem S14575_ok : SumOk Tryz.prog 227 [(iN 191)] S14575 := SumOk.of_run (K := K_UQ0a) (n := 5000) (keep := []) mixed K_UQ0a_ok (by kernel_rfl) (by as_aux_lemma => kernel_rfl)

noncomputable def S14568 : Sum := ⟨bT, 20, []⟩
theorem S14568_ok : SumOk Tryz.prog 227 [(iN 183)] S14568 := SumOk.of_run (K := K_UQ0a) (n := 5000) (keep := []) mixed K_UQ0a_ok (by kernel_rfl) (by as_aux_lemma => kernel_rfl)

noncomputable def S14562 : Sum := ⟨bT, 9, []⟩
theorem S14562_ok : SumOk Tryz.prog 227 [(iN 89)] S14562 := SumOk.of_run (K := K_UQ0a) (n := 5000) (keep := []) mixed K_UQ0a_ok (by kernel_rfl) (by as_aux_lemma => kernel_rfl)

noncomputable def S14555 : Sum := ⟨bT, 21, []⟩
theorem S14555_ok : SumOk Tryz.prog 227 [(iN 187)] S14555 := SumOk.of_run (K := K_UQ0a) (n := 5000) (keep := []) mixed K_UQ0a_ok (by kernel_rfl) (by as_aux_lemma => kernel_rfl)

noncomputable def S14548 : Sum := ⟨bT, 18, []⟩
theorem S14548_ok : SumOk Tryz.prog 227 [(iN 157)] S14548 := SumOk.of_run (K := K_UQ0a) (n := 5000) (keep := []) mixed K_UQ0a_ok (by kernel_rfl) (by as_aux_lemma => kernel_rfl)

noncomputable def S14140 : Sum := ⟨(.tup [(.so 10 0 2 4), (.agg [(uN 73), tx11, z0, (uN 0)]), bT]), 16, [(10, (.cells 8 true [] (T.ofList 0 .leaf [(uN 73), tx11, z0, (uN 0), (uN 73), tx11, z0, (uN 0)])))]⟩
theorem S14140_ok : SumOk Tryz.prog 120 [tx60] S14140 := SumOk.of_run (K := K_UQ0a) (n := 5000) (keep := [10]) mixed K_UQ0a_ok (by kernel_rfl) (by as_aux_lemma => kernel_rfl)

noncomputable def S14128 : Sum := ⟨bT, 6, []⟩
theorem S14128_ok : SumOk Tryz.prog 192 [tx65] S14128 := SumOk.of_run (K := K_UQ0a) (n := 5000) (keep := []) mixed K_UQ0a_ok (by kernel_rfl) (by as_aux_lemma => kernel_rfl)

noncomputable def S14103 : Sum := ⟨bT, 5, []⟩
theorem S14103_ok : SumOk Tryz.prog 278 [tx51] S14103 := SumOk.of_run (K := K_UQ0a) (n := 5000) (keep := []) mixed K_UQ0a_ok (by kernel_rfl) (by as_aux_lemma => kernel_rfl)

noncomputable def S14025 : Sum := ⟨(.tup [(.so 12 0 6 1), bT]), 13, [(12, (.cells 6 true [] (T.ofList 0 .leaf [(.int .u16 60), (.int .u16 105), (.int .u16 110), (.int .u16 105), (.int .u16 116), (.int .u16 62)])))]⟩
theorem S14025_ok : SumOk Tryz.prog 259 [tx8] S14025 := SumOk.of_run (K := K_UQ0a) (n := 5000) (keep := [12]) mixed K_UQ0a_ok (by kernel_rfl) (by as_aux_lemma => kernel_rfl)

noncomputable def S14005 : Sum := ⟨(iN (-1)), 2, []⟩
theorem S14005_ok : SumOk Tryz.prog 360 [tx59, tx75] S14005 := SumOk.of_run (K := K_UQ0a) (n := 5000) (keep := []) mixed K_UQ0a_ok (by kernel_rfl) (by as_aux_lemma => kernel_rfl)

noncomputable def S14003 : Sum := ⟨(.tup [(.so 32 0 16 1), bT]), 33, [(32, (.cells 16 true [] (T.ofList 0 .leaf [(.int .u16 82), (.int .u16 117), (.int .u16 110), (.int .u16 116), (.int .u16 105), (.int .u16 109), (.int .u16 101), (.int .u16 69), (.int .u16 120), (.int .u16 99), (.int .u16 101), (.int .u16 112), (.int .u16 116), (.int .u16 105), (.int .u16 111), (.int .u16 110)])))]⟩
theorem S14003_ok : SumOk Tryz.prog 259 [tx59] S14003 := SumOk.of_run (K := K_UQ0a) (n := 5000) (keep := [32]) mixed K_UQ0a_ok (by kernel_rfl) (by as_aux_lemma => kernel_rfl)

noncomputable def S13960 : Sum := ⟨(.sl 0 0 3 3), 1, [(0, (.cells 3 false [tx11] (T.ofList 0 .leaf [tx80, tx81, tx59])))]⟩
theorem S13960_ok : SumOk Tryz.prog 410 [tx2, tx84, z0, (iN (-1))] S13960 := SumOk.of_run (K := K_UQ0a) (n := 5000) (keep := [0]) mixed K_UQ0a_ok (by kernel_rfl) (by as_aux_lemma => kernel_rfl)

noncomputable def I6703 : In := ⟨145, [(pN 3256), (.fn (.func 146) [] [(pN 6843)])], 6851, [q49, (6725, (.cells 1 true [] (T.ofList 0 .leaf [(uN 76)]))), (6821, (.cells 1 true [] (T.ofList 0 .leaf [(uN 76)]))), q50, q51, q52, q53, (6843, (.cells 1 false [] (T.ofList 0 .leaf [(.map 6842)])))], (.map 6851), 6859, [(3256, (.cells 5 false [] (T.ofList 0 .leaf [(pN 3), (.so 6824 0 8 1), (.so 6858 0 3 1), (.so 6823 0 3 3), (.map 3255)]))), (6725, (.cells 1 true [] (T.ofList 0 .leaf [(uN 76)]))), (6821, (.cells 1 true [] (T.ofList 0 .leaf [(uN 76)]))), q50, q51, q52, q53, (6843, (.cells 1 false [] (T.ofList 0 .leaf [(.map 6842)]))), (6851, (.map [(z1, z1, 0), ((iN 3), (iN 3), 1), ((iN 6), (iN 6), 2)] 3))]⟩
theorem I6703_ok : InOk Tryz.prog I6703 := InOk.of_run (K := K_UQ0a) (n := 5000) mixed K_UQ0a_ok (by kernel_rfl) (by as_aux_lemma => kernel_rfl)

noncomputable def S5693 : Sum := ⟨(.tup [(.so 5 0 1 4), (.agg [(uN 86), tx11, z0, (uN 0)]), bT]), 6, [q55]⟩
theorem S5693_ok : SumOk Tryz.prog 120 [tx61] S5693 := SumOk.of_run (K := K_UQ0a) (n := 5000) (keep := [5]) mixed K_UQ0a_ok (by kernel_rfl) (by as_aux_lemma => kernel_rfl)

noncomputable def S5664 : Sum := ⟨(.tup [(.so 5 0 1 4), (.agg [(uN 86), tx11, z0, (uN 0)]), bT]), 6, [q56]⟩
theorem S5664_ok : SumOk Tryz.prog 120 [tx62] S5664 := SumOk.of_run (K := K_UQ0a) (n := 5000) (keep := [5]) mixed K_UQ0a_ok (by kernel_rfl) (by as_aux_lemma => kernel_rfl)

noncomputable def S5636 : Sum := ⟨(.tup [(.so 5 0 1 4), (.agg [(uN 86), tx11, z0, (uN 0)]), bT]), 6, [q57]⟩
theorem S5636_ok : SumOk Tryz.prog 120 [tx63] S5636 := SumOk.of_run (K := K_UQ0a) (n := 5000) (keep := [5]) mixed K_UQ0a_ok (by kernel_rfl) (by as_aux_lemma => kernel_rfl)

noncomputable def S5609 : Sum := ⟨(.tup [(.so 5 0 1 4), (.agg [(uN 86), tx11, z0, (uN 0)]), bT]), 6, [q58]⟩
theorem S5609_ok : SumOk Tryz.prog 120 [tx64] S5609 := SumOk.of_run (K := K_UQ0a) (n := 5000) (keep := [5]) mixed K_UQ0a_ok (by kernel_rfl) (by as_aux_lemma => kernel_rfl)

noncomputable def S3898 : Sum := ⟨(.tup [(.so 5 0 1 4), (.agg [(uN 67), tx11, z0, (uN 0)]), bT]), 11, [q58]⟩
theorem S3898_ok : SumOk Tryz.prog 120 [tx74] S3898 := SumOk.of_run (K := K_UQ0a) (n := 5000) (keep := [5]) mixed K_UQ0a_ok (by kernel_rfl) (by as_aux_lemma => kernel_rfl)

noncomputable def S3876 : Sum := ⟨(.tup [.nils, (.agg [(uN 73), tx11, z0, (uN 0)]), bT]), 6, []⟩
theorem S3876_ok : SumOk Tryz.prog 120 [tx71] S3876 := SumOk.of_run (K := K_UQ0a) (n := 5000) (keep := []) mixed K_UQ0a_ok (by kernel_rfl) (by as_aux_lemma => kernel_rfl)

noncomputable def S3679 : Sum := ⟨(iN 22), 33, []⟩
theorem S3679_ok : SumOk Tryz.prog 257 [tx44, tx82, tx42] S3679 := SumOk.of_run (K := K_UQ0a) (n := 5000) (keep := []) mixed K_UQ0a_ok (by kernel_rfl) (by as_aux_lemma => kernel_rfl)

noncomputable def S3198 : Sum := ⟨(iN (-1)), 1, []⟩
theorem S3198_ok : SumOk Tryz.prog 360 [tx72, tx75] S3198 := SumOk.of_run (K := K_UQ0a) (n := 5000) (keep := []) mixed K_UQ0a_ok (by kernel_rfl) (by as_aux_lemma => kernel_rfl)

noncomputable def S3196 : Sum := ⟨(.tup [(.so 12 0 6 1), bT]), 13, [(12, (.cells 6 true [] (T.ofList 0 .leaf [(.int .u16 83), (.int .u16 116), (.int .u16 114), (.int .u16 105), (.int .u16 110), (.int .u16 103)])))]⟩
theorem S3196_ok : SumOk Tryz.prog 259 [tx72] S3196 := SumOk.of_run (K := K_UQ0a) (n := 5000) (keep := [12]) mixed K_UQ0a_ok (by kernel_rfl) (by as_aux_lemma => kernel_rfl)

noncomputable def S3153 : Sum := ⟨(.sl 0 0 3 3), 1, [(0, (.cells 3 false [tx11] (T.ofList 0 .leaf [tx80, tx81, tx72])))]⟩
theorem S3153_ok : SumOk Tryz.prog 410 [tx4, tx84, z0, (iN (-1))] S3153 := SumOk.of_run (K := K_UQ0a) (n := 5000) (keep := [0]) mixed K_UQ0a_ok (by kernel_rfl) (by as_aux_lemma => kernel_rfl)

noncomputable def S3129 : Sum := ⟨(iN 3), 9, []⟩
theorem S3129_ok : SumOk Tryz.prog 257 [tx3, tx58, tx17] S3129 := SumOk.of_run (K := K_UQ0a) (n := 5000) (keep := []) mixed K_UQ0a_ok (by kernel_rfl) (by as_aux_lemma => kernel_rfl)

noncomputable def S3102 : Sum := ⟨(iN (-1)), 1, []⟩
theorem S3102_ok : SumOk Tryz.prog 360 [tx73, tx75] S3102 := SumOk.of_run (K := K_UQ0a) (n := 5000) (keep := []) mixed K_UQ0a_ok (by kernel_rfl) (by as_aux_lemma => kernel_rfl)

noncomputable def S3100 : Sum := ⟨(.tup [(.so 12 0 6 1), bT]), 13, [(12, (.cells 6 true [] (T.ofList 0 .leaf [(.int .u16 79), (.int .u16 98), (.int .u16 106), (.int .u16 101), (.int .u16 99), (.int .u16 116)])))]⟩
theorem S3100_ok : SumOk Tryz.prog 259 [tx73] S3100 := SumOk.of_run (K := K_UQ0a) (n := 5000) (keep := [12]) mixed K_UQ0a_ok (by kernel_rfl) (by as_aux_lemma => kernel_rfl)

noncomputable def S3082 : Sum := ⟨bT, 10, []⟩
theorem S3082_ok : SumOk Tryz.prog 192 [tx81] S3082 := SumOk.of_run (K := K_UQ0a) (n := 5000) (keep := []) mixed K_UQ0a_ok (by kernel_rfl) (by as_aux_lemma => kernel_rfl)

noncomputable def S3065 : Sum := ⟨bT, 10, []⟩
theorem S3065_ok : SumOk Tryz.prog 192 [tx80] S3065 := SumOk.of_run (K := K_UQ0a) (n := 5000) (keep := []) mixed K_UQ0a_ok (by kernel_rfl) (by as_aux_lemma => kernel_rfl)

noncomputable def S3057 : Sum := ⟨(.sl 0 0 3 3), 1, [(0, (.cells 3 false [tx11] (T.ofList 0 .leaf [tx80, tx81, tx73])))]⟩
theorem S3057_ok : SumOk Tryz.prog 410 [tx3, tx84, z0, (iN (-1))] S3057 := SumOk.of_run (K := K_UQ0a) (n := 5000) (keep := [0]) mixed K_UQ0a_ok (by kernel_rfl) (by as_aux_lemma => kernel_rfl)

noncomputable def S3035 : Sum := ⟨z2, 8, []⟩
theorem S3035_ok : SumOk Tryz.prog 257 [tx3, tx66, tx43] S3035 := SumOk.of_run (K := K_UQ0a) (n := 5000) (keep := []) mixed K_UQ0a_ok (by kernel_rfl) (by as_aux_lemma => kernel_rfl)

noncomputable def S2638 : Sum := ⟨(.tup [tx3, (.so 14 0 8 3), bT]), 15, [(14, (.cells 24 true [] (T.ofList 0 .leaf [tx8, tx32, bF, tx46, tx38, bF, tx46, tx47, bF, tx46, tx48, bF, tx46, tx49, bF, tx46, tx50, bF, tx69, tx71, bF, tx58, tx17, bF])))]⟩
theorem S2638_ok : SumOk Tryz.prog 96 [tx1] S2638 := SumOk.of_run (K := K_UQ0a) (n := 5000) (keep := [14]) mixed K_UQ0a_ok (by kernel_rfl) (by as_aux_lemma => kernel_rfl)

noncomputable def S2629 : Sum := ⟨(.tup [tx3, (.so 10 0 10 3), bT]), 11, [(10, (.cells 30 true [] (T.ofList 0 .leaf [tx69, tx71, bF, tx77, tx74, bF, tx78, tx41, bF, tx66, tx43, bF, tx79, tx17, bF, tx58, tx17, bF, tx53, tx54, bT, tx53, tx55, bT, tx53, tx56, bT, tx53, tx57, bT])))]⟩
theorem S2629_ok : SumOk Tryz.prog 96 [tx4] S2629 := SumOk.of_run (K := K_UQ0a) (n := 5000) (keep := [10]) mixed K_UQ0a_ok (by kernel_rfl) (by as_aux_lemma => kernel_rfl)

noncomputable def S461 : Sum := ⟨(.so 28 0 13 3), 29, [(28, (.cells 39 true [] (T.ofList 0 .leaf [tx45, tx5, bF, tx45, tx64, bF, tx45, tx63, bF, tx45, tx62, bF, tx45, tx61, bF, tx45, tx40, bF, tx37, tx5, bF, tx37, tx64, bF, tx37, tx63, bF, tx37, tx62, bF, tx37, tx61, bF, tx37, tx40, bF, tx37, tx32, bF])))]⟩
theorem S461_ok : SumOk Tryz.prog 151 [tx0] S461 := SumOk.of_run (K := K_UQ0a) (n := 5000) (keep := [28]) mixed K_UQ0a_ok (by kernel_rfl) (by as_aux_lemma => kernel_rfl)

noncomputable def I92 : In := ⟨149, [(.so 163 0 33 1), z0, (iN 33), (iN 6)], 164, [(163, (.cells 33 true [] (T.ofList 0 .leaf [tx3, tx4, tx1, tx44, tx0, tx6, tx14, tx20, tx2, tx13, tx35, tx19, tx24, tx23, tx7, tx12, tx39, tx36, tx33, tx30, tx26, tx31, tx21, tx9, tx10, tx27, tx25, tx16, tx22, tx29, tx28, tx18, tx15])))], (.tup []), 168, [(163, (.cells 33 true [] (T.ofList 0 .leaf [tx0, tx26, tx27, tx16, tx28, tx29, tx23, tx35, tx20, tx14, tx21, tx30, tx18, tx7, tx13, tx31, tx12, tx22, tx24, tx36, tx33, tx25, tx3, tx10, tx2, tx9, tx4, tx1, tx15, tx44, tx6, tx19, tx39])))]⟩
theorem I92_ok : InOk Tryz.prog I92 := InOk.of_run (K := K_UQ0a) (n := 5000) mixed K_UQ0a_ok (by kernel_rfl) (by as_aux_lemma => kernel_rfl)

noncomputable def S8 : Sum := ⟨(.so 75 0 28 2), 76, [(75, (.cells 56 true [] (T.ofList 0 .leaf [tx6, tx3, tx14, tx6, tx20, tx6, tx2, tx14, tx13, tx2, tx35, tx12, tx19, tx12, tx24, tx12, tx23, tx12, tx7, tx12, tx12, tx20, tx39, tx12, tx36, tx7, tx33, tx7, tx30, tx7, tx26, tx7, tx31, tx7, tx21, tx12, tx9, tx20, tx10, tx20, tx27, tx2, tx25, tx2, tx16, tx13, tx22, tx2, tx29, tx2, tx28, tx2, tx18, tx2, tx15, tx13])))]⟩
theorem S8_ok : SumOk Tryz.prog 94 [] S8 := SumOk.of_run (K := K_UQ0a) (n := 5000) (keep := [75]) mixed K_UQ0a_ok (by kernel_rfl) (by as_aux_lemma => kernel_rfl)

noncomputable def tab_UQ0a : List (FuncId × SRows) := (94, [([], S8)]) :: (151, [([tx0], S461)]) :: (96, [([tx1], S2638), ([tx4], S2629)]) :: (257, [([tx44, tx82, tx42], S3679), ([tx3, tx58, tx17], S3129), ([tx3, tx66, tx43], S3035)]) :: (410, [([tx2, tx84, z0, (iN (-1))], S13960), ([tx4, tx84, z0, (iN (-1))], S3153), ([tx3, tx84, z0, (iN (-1))], S3057)]) :: (360, [([tx59, tx75], S14005), ([tx72, tx75], S3198), ([tx73, tx75], S3102)]) :: (259, [([tx8], S14025), ([tx59], S14003), ([tx72], S3196), ([tx73], S3100)]) :: (278, [([tx51], S14103)]) :: (192, [([tx65], S14128), ([tx81], S3082), ([tx80], S3065)]) :: (120, [([tx60], S14140), ([tx61], S5693), ([tx62], S5664), ([tx63], S5636), ([tx64], S5609), ([tx74], S3898), ([tx71], S3876)]) :: (227, [([(iN 160)], S14626), ([(iN 87)], S14612), ([(iN 172)], S14606), ([(iN 184)], S14599), ([(iN 100)], S14589), ([(iN 191)], S14575), ([(iN 183)], S14568), ([(iN 89)], S14562), ([(iN 187)], S14555), ([(iN 157)], S14548)]) :: (229, [([(iN 160)], S14784), ([(iN 87)], S14769), ([(iN 172)], S14764), ([(iN 184)], S14745), ([(iN 100)], S14735), ([(iN 4)], S14730), ([(iN 191)], S14720), ([(iN 183)], S14701), ([(iN 89)], S14696), ([(iN 187)], S14681), ([(iN 157)], S14676)]) :: []
theorem tab_UQ0a_ok : TabOk Tryz.prog tab_UQ0a := (TabOk.cons (RowsOk.cons S8_ok RowsOk.nil) (TabOk.cons (RowsOk.cons S461_ok RowsOk.nil) (TabOk.cons (RowsOk.cons S2638_ok (RowsOk.cons S2629_ok RowsOk.nil)) (TabOk.cons (RowsOk.cons S3679_ok (RowsOk.cons S3129_ok (RowsOk.cons S3035_ok RowsOk.nil))) (TabOk.cons (RowsOk.cons S13960_ok (RowsOk.cons S3153_ok (RowsOk.cons S3057_ok RowsOk.nil))) (TabOk.cons (RowsOk.cons S14005_ok (RowsOk.cons S3198_ok (RowsOk.cons S3102_ok RowsOk.nil))) (TabOk.cons (RowsOk.cons S14025_ok (RowsOk.cons S14003_ok (RowsOk.cons S3196_ok (RowsOk.cons S3100_ok RowsOk.nil)))) (TabOk.cons (RowsOk.cons S14103_ok RowsOk.nil) (TabOk.cons (RowsOk.cons S14128_ok (RowsOk.cons S3082_ok (RowsOk.cons S3065_ok RowsOk.nil))) (TabOk.cons (RowsOk.cons S14140_ok (RowsOk.cons S5693_ok (RowsOk.cons S5664_ok (RowsOk.cons S5636_ok (RowsOk.cons S5609_ok (RowsOk.cons S3898_ok (RowsOk.cons S3876_ok RowsOk.nil))))))) (TabOk.cons (RowsOk.cons S14626_ok (RowsOk.cons S14612_ok (RowsOk.cons S14606_ok (RowsOk.cons S14599_ok (RowsOk.cons S14589_ok (RowsOk.cons S14575_ok (RowsOk.cons S14568_ok (RowsOk.cons S14562_ok (RowsOk.cons S14555_ok (RowsOk.cons S14548_ok RowsOk.nil)))))))))) (TabOk.cons (RowsOk.cons S14784_ok (RowsOk.cons S14769_ok (RowsOk.cons S14764_ok (RowsOk.cons S14745_ok (RowsOk.cons S14735_ok (RowsOk.cons S14730_ok (RowsOk.cons S14720_ok (RowsOk.cons S14701_ok (RowsOk.cons S14696_ok (RowsOk.cons S14681_ok (RowsOk.cons S14676_ok RowsOk.nil))))))))))) TabOk.nil))))))))))))
noncomputable def H_UQ0a : Hand := (((Hand.at 149 (inHand I92)).or (Hand.at 145 (inHand I6703))).or (sumsHand tab_UQ0a))
theorem H_UQ0a_ok : HandOk Tryz.prog H_UQ0a := (HandOk.or (HandOk.or (HandOk.at 149 (inHand_ok I92_ok (by kernel_rfl))) (HandOk.at 145 (inHand_ok I6703_ok (by kernel_rfl)))) (sumsHand_ok tab_UQ0a_ok))
end Go.Proofs.YtfkfmjlppllfoaaGreatDoor.uq
