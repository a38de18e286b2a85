/-
  Contracts of calls, by the kernel.
-/
import Derived.Test.YthgncmohimdbmaaGreatDoorCYNN
import Derived.Test.YthgncmohimdbmaaGreatDoorXN3
import Derived.Test.YthgncmohimdbmaaGreatDoorProg
import Derived.KernelRfl
set_option linter.unusedSectionVars false
set_option linter.unusedVariables false
set_option maxRecDepth 1000000
set_option maxHeartbeats 0
namespace Go.Proofs.YthgncmohimdbmaaGreatDoor.cy
open Go.X Go.RowKit
noncomputable abbrev q0 : Nat × Blk := (10474, (.cells 5 false [] (T.ofList 0 .leaf [(pN 7221), (.so 19440 0 16 1), (.so 19442 0 4 1), (.so 19439 0 4 3), (.map 10473)])))
noncomputable abbrev q1 : Nat × Blk := (10480, (.cells 7 false [] (T.ofList 0 .leaf [(pN 10474), (pN 10476), (pN 7221), (.so 11194 0 39 3), .nils, bF, bF])))
noncomputable abbrev q2 : Nat × Blk := (19439, (.cells 12 true [] (T.ofList 0 .leaf [tx2, .nils, (uN 0), tx14, (.so 13943 0 1 1), (uN 0), tx16, (.so 14039 0 1 1), (uN 0), tx19, .nils, (uN 73)])))
noncomputable abbrev g19440_0 (x0 x1 x2 x3 x4 : AV) : Nat × Blk := (19440, (.cells 16 true [] (T.ofList 0 .leaf [(.int .u64 0), (.int .u64 0), (.int .u64 1), (.int .u64 0), (.int .u64 0), (.int .u64 2), (.int .u64 0), (.int .u64 0), (.int .u64 3), (.int .u64 0), (.int .u64 10), x0, x1, x2, x3, x4])))
noncomputable abbrev q3 : Nat × Blk := g19440_0 (.int .u64 4294967296) (.int .u64 38654705668) (.int .u64 107374182416) (.int .u64 210453397540) (.int .u64 347892351040)
noncomputable abbrev q4 : Nat × Blk := (19442, (.cells 4 true [] (T.ofList 0 .leaf [z0, z2, (iN 5), (iN 8)])))
noncomputable abbrev q5 : Nat × Blk := (24371, (.cells 5 true [] (T.ofList 0 .leaf [(iN 9), (oN 22), (iN 9), (oN 27), (oN 32)])))
noncomputable abbrev q6 : Nat × Blk := (7220, (.map [(tx2, (pN 7417), 0), (tx35, (pN 7565), 1), (tx36, (pN 7674), 2), (tx17, (pN 7785), 3), (tx37, (pN 7899), 4), (tx39, (pN 8012), 5), (tx32, (pN 8109), 6), (tx43, (pN 8203), 7), (tx18, (pN 8294), 8), (tx29, (pN 8384), 9), (tx26, (pN 8490), 10), (tx40, (pN 8593), 11), (tx23, (pN 8708), 12), (tx7, (pN 8806), 13), (tx12, (pN 8899), 14), (tx41, (pN 9004), 15), (tx11, (pN 9103), 16), (tx27, (pN 9215), 17), (tx33, (pN 9311), 18), (tx44, (pN 9412), 19), (tx42, (pN 9514), 20), (tx34, (pN 9624), 21), (tx5, (pN 9635), 22), (tx16, (pN 9746), 23), (tx8, (pN 9838), 24), (tx14, (pN 9945), 25), (tx6, (pN 9966), 26), (tx3, (pN 10023), 27), (tx20, (pN 10163), 28), (tx21, (pN 10175), 29), (tx10, (pN 10263), 30), (tx24, (pN 10363), 31), (tx51, (pN 10463), 32)] 33))
noncomputable abbrev g7221_1 (x0 : AV) : Nat × Blk := (7221, (.cells 3 false [] (T.ofList 0 .leaf [(.map 7219), (.map 7220), x0])))
noncomputable abbrev q7 : Nat × Blk := g7221_1 (.so 16260 0 1 1)
noncomputable abbrev q8 : Nat × Blk := (7785, (.cells 8 false [] (T.ofList 0 .leaf [(iN 52), .nils, (iN 33), tx17, tx12, .nils, .nils, (.so 7794 0 2 9)])))
noncomputable abbrev q9 : Nat × Blk := (8384, (.cells 8 false [] (T.ofList 0 .leaf [(iN 52), .nils, (iN 33), tx29, tx10, .nils, .nils, (.so 8393 0 2 9)])))
noncomputable abbrev q10 : Nat × Blk := (8899, (.cells 8 false [] (T.ofList 0 .leaf [(iN 52), .nils, (iN 33), tx12, tx8, .nils, .nils, (.so 8908 0 2 9)])))
noncomputable abbrev q11 : Nat × Blk := (9635, (.cells 8 false [] (T.ofList 0 .leaf [(iN 52), .nils, (iN 33), tx5, tx1, .nils, .nils, (.so 9647 0 3 9)])))
noncomputable abbrev q12 : Nat × Blk := (9838, (.cells 8 false [] (T.ofList 0 .leaf [(iN 52), .nils, (iN 33), tx8, tx29, .nils, .nils, (.so 9847 0 2 9)])))
noncomputable abbrev q13 : Nat × Blk := (10175, (.cells 8 false [] (T.ofList 0 .leaf [(iN 52), .nils, (iN 49), tx21, tx5, .nils, (.sl 10181 0 1 1), (.so 10180 0 1 9)])))
noncomputable abbrev q14 : Nat × Blk := (10180, (.cells 9 true [] (T.ofList 0 .leaf [(iN 9), tx58, tx13, bF, z0, z0, .nils, .nils, .nils])))
noncomputable abbrev q15 : Nat × Blk := (10263, (.cells 8 false [] (T.ofList 0 .leaf [(iN 52), .nils, (iN 33), tx10, tx5, .nils, (.sl 10277 0 1 1), (.so 10276 0 3 9)])))
noncomputable abbrev q16 : Nat × Blk := (10277, (.cells 4 false [] (T.ofList 0 .leaf [z2, tx86, tx61, z0])))
noncomputable abbrev q17 : Nat × Blk := (10473, (.map [(tx2, z0, 0), (tx14, z1, 1), (tx16, z2, 2), (tx19, (iN 3), 3)] 4))
noncomputable abbrev q18 : Nat × Blk := (11194, (.cells 117 true [] (T.ofList 0 .leaf [tx1, z0, .nilf, tx5, z1, (.fn (.func 151) [] []), tx5, z2, (.fn (.func 152) [] []), tx5, z1, (.fn (.func 153) [] []), tx6, z1, (.fn (.func 157) [] []), tx6, z2, (.fn (.func 158) [] []), tx6, z2, (.fn (.func 159) [] []), tx6, z2, (.fn (.func 160) [] []), tx6, z1, (.fn (.func 161) [] []), tx6, z1, (.fn (.func 162) [] []), tx1, z1, (.fn (.func 163) [] [(pN 11688)]), tx1, z1, (.fn (.func 163) [] [(pN 11761)]), tx1, z1, (.fn (.func 163) [] [(pN 11835)]), tx1, z1, (.fn (.func 163) [] [(pN 11910)]), tx3, z1, (.fn (.func 166) [] []), tx3, z2, (.fn (.func 167) [] [(pN 12022)]), tx3, z2, (.fn (.func 167) [] [(pN 12154)]), tx3, z2, (.fn (.func 167) [] [(pN 12252)]), tx3, z2, (.fn (.func 167) [] [(pN 12351)]), tx3, z2, (.fn (.func 167) [] [(pN 12451)]), tx3, z1, (.fn (.func 171) [] []), tx3, z1, (.fn (.func 172) [] []), tx1, (iN 5), (.fn (.func 156) [] []), tx2, z2, (.fn (.func 173) [] [(pN 12683), (pN 12681)]), tx2, z2, (.fn (.func 173) [] [(pN 12789), (pN 12681)]), tx2, z2, (.fn (.func 173) [] [(pN 12861), (pN 12681)]), tx2, z2, (.fn (.func 173) [] [(pN 12934), (pN 12681)]), tx2, z2, (.fn (.func 173) [] [(pN 13008), (pN 12681)]), tx2, z2, (.fn (.func 173) [] [(pN 13083), (pN 12681)]), tx2, z2, (.fn (.func 173) [] [(pN 13196), (pN 13194)]), tx2, z2, (.fn (.func 173) [] [(pN 13308), (pN 13194)]), tx2, z2, (.fn (.func 173) [] [(pN 13386), (pN 13194)]), tx2, z2, (.fn (.func 173) [] [(pN 13465), (pN 13194)]), tx2, z2, (.fn (.func 173) [] [(pN 13545), (pN 13194)]), tx2, z2, (.fn (.func 173) [] [(pN 13626), (pN 13194)]), tx2, z1, (.fn (.func 175) [] []), tx10, z1, (.fn (.func 151) [] []), tx10, z2, (.fn (.func 154) [] []), tx10, z1, (.fn (.func 155) [] [])])))
noncomputable abbrev g13820_2 (x0 x1 : AV) : Nat × Blk := (13820, (.cells 4 false [] (T.ofList 0 .leaf [x0, x1, (.so 19202 0 1 7), (iN 12)])))
noncomputable abbrev q19 : Nat × Blk := g13820_2 (.so 24036 0 8 1) (.so 24037 0 8 1)
noncomputable abbrev q20 : Nat × Blk := (13821, (.map [(tx69, (pN 19191), 0), (tx5, (pN 19196), 1)] 2))
noncomputable abbrev g13824_3 (x0 x1 x2 x3 x4 x5 x6 : AV) : Nat × Blk := (13824, (.cells 32 false [] (T.ofList 0 .leaf [(pN 7221), (pN 10479), (pN 10474), (pN 10476), (pN 10480), (pN 13820), x0, (.map 13821), (.map 13822), .nils, z1, (iN 3), (iN 6), z0, .nilp, x1, (iN 2000), x2, z0, z1, z0, x3, (uN 0), z0, x4, tx1, bF, x5, .nils, z0, x6, (.map 13823)])))
noncomputable abbrev q21 : Nat × Blk := g13824_3 (.so 19207 0 1 1) bT (iN 125) z0 tx1 z0 z0
noncomputable abbrev q22 : Nat × Blk := (14128, (.cells 8 false [] (T.ofList 0 .leaf [(iN 52), (.sl 14130 0 17 17), (iN 33), tx69, tx5, .nils, .nils, (.so 16258 0 1 9)])))
noncomputable abbrev q23 : Nat × Blk := (14130, (.cells 85 false [z0, tx1, z0, z0, z0] (ofPairs [(5, z1), (6, tx19), (7, z0), (8, z0), (9, z0), (10, (iN 7)), (11, tx1), (12, z0), (13, z1), (14, z0), (15, z1), (16, tx21), (17, z0), (18, z0), (19, z0), (20, (iN 7)), (21, tx1), (22, z0), (23, (iN 3)), (24, z0), (25, z1), (26, tx58), (27, z0), (28, z0), (29, z0), (30, z1), (31, tx13), (32, z0), (33, z0), (34, z0), (35, (iN 12)), (36, tx1), (37, z0), (38, (iN 5)), (39, (iN 6)), (40, (iN 10)), (41, tx1), (42, z0), (43, (iN 4)), (44, (iN 7)), (45, z1), (46, tx87), (47, z0), (48, z0), (49, z0), (50, z1), (51, tx67), (52, z0), (53, z0), (54, z0), (55, z1), (56, tx73), (57, z0), (58, z0), (59, z0), (60, z1), (61, (.str 4 1701080899)), (62, z0), (63, z0), (64, z0), (65, z1), (66, tx69), (67, z0), (68, z0), (69, z0), (70, (iN 7)), (71, tx1), (72, z0), (73, (iN 13)), (74, z0), (75, z1), (76, tx5), (77, z0), (78, z0), (79, z0), (80, (iN 7)), (81, tx1), (82, z0), (83, (iN 15)), (84, z0)])))
noncomputable abbrev q24 : Nat × Blk := (14913, (.cells 66 true [] (T.ofList 0 .leaf [(uN 3), (uN 59), (uN 3), (uN 60), (uN 16), (uN 10), (uN 188), (uN 10), (uN 77), (uN 26), (uN 16), (uN 10), (uN 162), (uN 0), (uN 15), (uN 44), (uN 26), (uN 26), (uN 26), (uN 104), (uN 79), (uN 132), (uN 0), (uN 1), (uN 167), (uN 255), (uN 241), (uN 44), (uN 17), (oN 10), (oN 11), (uN 44), (uN 17), (oN 13), (oN 14), (uN 17), (oN 16), (oN 17), (uN 184), (uN 0), (uN 8), (uN 3), (uN 59), (uN 26), (uN 16), (uN 10), (uN 162), (uN 0), (uN 18), (uN 27), (uN 16), (uN 7), (uN 104), (uN 44), (uN 26), (uN 46), (uN 96), (uN 60), (uN 132), (uN 0), (uN 1), (uN 167), (uN 255), (uN 238), (uN 27), (uN 172)])))
noncomputable abbrev q25 : Nat × Blk := (16253, (.cells 16 true [] (T.ofList 0 .leaf [(iN 255), (iN 9), (.so 16190 0 3 3), .nils, (iN 255), (iN 17), (.so 16210 0 3 3), .nils, (iN 255), (iN 15), (.so 16230 0 3 3), .nils, (iN 255), (iN 20), (.so 16250 0 3 3), .nils])))
noncomputable abbrev q26 : Nat × Blk := (16258, (.cells 9 true [] (T.ofList 0 .leaf [(iN 9), tx87, tx67, bT, (iN 5), (iN 3), (.so 14913 0 66 1), .nils, (.so 16253 0 4 4)])))
noncomputable abbrev q27 : Nat × Blk := (19191, (.cells 2 false [] (T.ofList 0 .leaf [z2, (.sl 19195 0 0 0)])))
noncomputable abbrev g19202_4 (x0 x1 : AV) : Nat × Blk := (19202, (.cells 7 true [] (T.ofList 0 .leaf [z0, z0, x0, z0, (iN 3), (iN 5), x1])))
noncomputable abbrev q28 : Nat × Blk := g19202_4 (iN 35) (iN 5)
noncomputable abbrev g19205_5 (x0 : AV) : Nat × Blk := (19205, (.cells 6 false [] (T.ofList 0 .leaf [z0, z0, (pN 14128), z0, x0, .nilp])))
noncomputable abbrev q29 : Nat × Blk := g19205_5 (iN 38)
noncomputable abbrev g24036_6 (x0 x1 x2 x3 x4 : AV) : Nat × Blk := (24036, (.cells 8 true [] (T.ofList 0 .leaf [x0, x1, (iN 9), x2, x3, x4, (oN 27), (oN 32)])))
noncomputable abbrev q30 : Nat × Blk := g24036_6 (iN 10) z0 (iN 9) (oN 22) (iN 9)
noncomputable abbrev g24037_7 (x0 x1 x2 : AV) : Nat × Blk := (24037, (.cells 8 true [] (T.ofList 0 .leaf [bF, bF, bT, x0, x1, x2, bF, bF])))
noncomputable abbrev q31 : Nat × Blk := g24037_7 bT bF bT
noncomputable abbrev q32 : Nat × Blk := g13824_3 .nils bF (iN 126) z2 tx17 (iN 126) z1
noncomputable abbrev q33 : Nat × Blk := g13820_2 (.so 19748 0 7 1) (.so 19749 0 7 1)
noncomputable abbrev q34 : Nat × Blk := g13824_3 (.so 19207 0 1 1) bT (iN 124) z0 tx1 z0 z0
noncomputable abbrev q35 : Nat × Blk := g19202_4 (iN 32) (iN 4)
noncomputable abbrev q36 : Nat × Blk := g19205_5 (iN 35)
noncomputable abbrev g19748_8 (x0 x1 x2 x3 x4 : AV) : Nat × Blk := (19748, (.cells 7 true [] (T.ofList 0 .leaf [x0, z0, (iN 9), x1, x2, x3, x4])))
noncomputable abbrev q37 : Nat × Blk := g19748_8 (iN 10) (iN 9) (oN 22) (iN 9) (oN 27)
noncomputable abbrev g19749_9 (x0 x1 : AV) : Nat × Blk := (19749, (.cells 7 true [] (T.ofList 0 .leaf [bF, bF, bT, x0, bF, x1, bF])))
noncomputable abbrev q38 : Nat × Blk := g19749_9 bT bT
noncomputable abbrev q39 : Nat × Blk := g13820_2 (.so 19748 0 6 1) (.so 19749 0 6 1)
noncomputable abbrev q40 : Nat × Blk := g13824_3 (.so 19207 0 1 1) bT (iN 123) z0 tx1 z0 z0
noncomputable abbrev q41 : Nat × Blk := g19202_4 (iN 31) (iN 3)
noncomputable abbrev q42 : Nat × Blk := g19205_5 (iN 32)
noncomputable abbrev q43 : Nat × Blk := g19748_8 (iN 10) (iN 9) (oN 22) (iN 9) (iN 9)
noncomputable abbrev q44 : Nat × Blk := g13820_2 (.so 19748 0 4 1) (.so 19749 0 4 1)
noncomputable abbrev q45 : Nat × Blk := g13824_3 (.so 19207 0 1 1) bT (iN 121) z0 tx1 z0 z0
noncomputable abbrev q46 : Nat × Blk := g19202_4 (iN 27) z1
noncomputable abbrev q47 : Nat × Blk := g19205_5 (iN 28)
noncomputable abbrev q48 : Nat × Blk := g19748_8 (iN 10) (iN 9) (iN 10) (iN 81) (iN 9)
noncomputable abbrev q49 : Nat × Blk := g19749_9 bT bF
noncomputable abbrev q50 : Nat × Blk := g13820_2 (.so 19748 0 5 1) (.so 19749 0 5 1)
noncomputable abbrev q51 : Nat × Blk := g13824_3 (.so 19207 0 1 1) bT (iN 122) z0 tx1 z0 z0
noncomputable abbrev q52 : Nat × Blk := g19202_4 (iN 28) z2
noncomputable abbrev q53 : Nat × Blk := g19205_5 (iN 31)
noncomputable abbrev q54 : Nat × Blk := g19748_8 (iN 10) (iN 9) (oN 22) (iN 81) (iN 9)
noncomputable abbrev q55 : Nat × Blk := (16878, (.cells 328 true [] (T.ofList 0 .leaf [z0, z1, (iN 3), bF, z0, z0, .nils, .nils, z1, z1, (iN 59), bF, z0, z0, .nils, .nils, z2, z1, (iN 3), bF, z0, z0, .nils, .nils, (iN 3), z1, (iN 60), bF, z1, z0, .nils, .nils, (iN 4), z2, (iN 16), bF, (iN 10), z0, .nils, .nils, (iN 6), z2, (iN 188), bF, (iN 10), z0, .nils, .nils, (iN 8), z1, (iN 77), bF, z2, z0, .nils, .nils, (iN 9), z1, (iN 26), bF, z0, z0, .nils, .nils, (iN 10), z2, (iN 16), bF, (iN 10), z0, .nils, .nils, (iN 12), (iN 3), (iN 162), bF, (iN 27), z0, .nils, .nils, (iN 15), z1, (iN 44), bF, z2, z0, .nils, .nils, (iN 16), z1, (iN 26), bF, z0, z0, .nils, .nils, (iN 17), z1, (iN 26), bF, z0, z0, .nils, .nils, (iN 18), z1, (iN 26), bF, z0, z0, .nils, .nils, (iN 19), z1, (iN 104), bF, z0, z0, .nils, .nils, (iN 20), z1, (iN 79), bF, z0, z0, .nils, .nils, (iN 21), (iN 3), (iN 132), bF, z0, z1, .nils, .nils, (iN 24), (iN 3), (iN 167), bF, (iN 9), z0, .nils, .nils, (iN 27), z1, (iN 44), bF, z2, z0, .nils, .nils, (iN 28), (iN 3), (iN 17), bF, (oN 22), z0, .nils, .nils, (iN 31), z1, (iN 44), bF, z2, z0, .nils, .nils, (iN 32), (iN 3), (iN 17), bF, (oN 27), z0, .nils, .nils, (iN 35), (iN 3), (iN 17), bF, (oN 32), z0, .nils, .nils, (iN 38), (iN 3), (iN 184), bF, (iN 8), z0, .nils, .nils, (iN 41), z1, (iN 3), bF, z0, z0, .nils, .nils, (iN 42), z1, (iN 59), bF, z0, z0, .nils, .nils, (iN 43), z1, (iN 26), bF, z0, z0, .nils, .nils, (iN 44), z2, (iN 16), bF, (iN 10), z0, .nils, .nils, (iN 46), (iN 3), (iN 162), bF, (iN 64), z0, .nils, .nils, (iN 49), z1, (iN 27), bF, z1, z0, .nils, .nils, (iN 50), z2, (iN 16), bF, (iN 7), z0, .nils, .nils, (iN 52), z1, (iN 104), bF, z0, z0, .nils, .nils, (iN 53), z1, (iN 44), bF, z2, z0, .nils, .nils, (iN 54), z1, (iN 26), bF, z0, z0, .nils, .nils, (iN 55), z1, (iN 46), bF, z0, z0, .nils, .nils, (iN 56), z1, (iN 96), bF, z0, z0, .nils, .nils, (iN 57), z1, (iN 60), bF, z1, z0, .nils, .nils, (iN 58), (iN 3), (iN 132), bF, z0, z1, .nils, .nils, (iN 61), (iN 3), (iN 167), bF, (iN 43), z0, .nils, .nils, (iN 64), z1, (iN 27), bF, z1, z0, .nils, .nils, (iN 65), z1, (iN 172), bF, z0, z0, .nils, .nils])))
noncomputable abbrev q56 : Nat × Blk := (16190, (.cells 9 true [] (T.ofList 0 .leaf [z1, tx1, z0, z1, tx1, z0, (iN 7), tx1, z2])))
noncomputable abbrev q57 : Nat × Blk := (16210, (.cells 9 true [] (T.ofList 0 .leaf [z1, tx1, z0, z1, tx1, z0, (iN 7), tx1, z2])))
noncomputable abbrev q58 : Nat × Blk := (16230, (.cells 9 true [] (T.ofList 0 .leaf [z1, tx1, z0, z1, tx1, z0, (iN 7), tx1, z2])))
noncomputable abbrev q59 : Nat × Blk := (16250, (.cells 9 true [] (T.ofList 0 .leaf [z1, tx1, z0, z1, tx1, z0, (iN 7), tx1, z2])))
noncomputable abbrev q60 : Nat × Blk := (15521, (.cells 328 true [] (T.ofList 0 .leaf [z0, z1, (iN 3), bF, z0, z0, .nils, .nils, z1, z1, (iN 59), bF, z0, z0, .nils, .nils, z2, z1, (iN 3), bF, z0, z0, .nils, .nils, (iN 3), z1, (iN 60), bF, z1, z0, .nils, .nils, (iN 4), z2, (iN 16), bF, (iN 10), z0, .nils, .nils, (iN 6), z2, (iN 188), bF, (iN 10), z0, .nils, .nils, (iN 8), z1, (iN 77), bF, z2, z0, .nils, .nils, (iN 9), z1, (iN 26), bF, z0, z0, .nils, .nils, (iN 10), z2, (iN 16), bF, (iN 10), z0, .nils, .nils, (iN 12), (iN 3), (iN 162), bF, (iN 27), z0, .nils, .nils, (iN 15), z1, (iN 44), bF, z2, z0, .nils, .nils, (iN 16), z1, (iN 26), bF, z0, z0, .nils, .nils, (iN 17), z1, (iN 26), bF, z0, z0, .nils, .nils, (iN 18), z1, (iN 26), bF, z0, z0, .nils, .nils, (iN 19), z1, (iN 104), bF, z0, z0, .nils, .nils, (iN 20), z1, (iN 79), bF, z0, z0, .nils, .nils, (iN 21), (iN 3), (iN 132), bF, z0, z1, .nils, .nils, (iN 24), (iN 3), (iN 167), bF, (iN 9), z0, .nils, .nils, (iN 27), z1, (iN 44), bF, z2, z0, .nils, .nils, (iN 28), (iN 3), (iN 17), bF, (oN 22), z0, .nils, .nils, (iN 31), z1, (iN 44), bF, z2, z0, .nils, .nils, (iN 32), (iN 3), (iN 17), bF, (oN 27), z0, .nils, .nils, (iN 35), (iN 3), (iN 17), bF, (oN 32), z0, .nils, .nils, (iN 38), (iN 3), (iN 184), bF, (iN 8), z0, .nils, .nils, (iN 41), z1, (iN 3), bF, z0, z0, .nils, .nils, (iN 42), z1, (iN 59), bF, z0, z0, .nils, .nils, (iN 43), z1, (iN 26), bF, z0, z0, .nils, .nils, (iN 44), z2, (iN 16), bF, (iN 10), z0, .nils, .nils, (iN 46), (iN 3), (iN 162), bF, (iN 64), z0, .nils, .nils, (iN 49), z1, (iN 27), bF, z1, z0, .nils, .nils, (iN 50), z2, (iN 16), bF, (iN 7), z0, .nils, .nils, (iN 52), z1, (iN 104), bF, z0, z0, .nils, .nils, (iN 53), z1, (iN 44), bF, z2, z0, .nils, .nils, (iN 54), z1, (iN 26), bF, z0, z0, .nils, .nils, (iN 55), z1, (iN 46), bF, z0, z0, .nils, .nils, (iN 56), z1, (iN 96), bF, z0, z0, .nils, .nils, (iN 57), z1, (iN 60), bF, z1, z0, .nils, .nils, (iN 58), (iN 3), (iN 132), bF, z0, z1, .nils, .nils, (iN 61), (iN 3), (iN 167), bF, (iN 43), z0, .nils, .nils, (iN 64), z1, (iN 27), bF, z1, z0, .nils, .nils, (iN 65), z1, (iN 172), bF, z0, z0, .nils, .nils])))
noncomputable abbrev q61 : Nat × Blk := (14904, (.cells 134 true [] (T.ofList 0 .leaf [(uN 0), (uN 5), (uN 0), (uN 3), (uN 0), (uN 0), (uN 0), (uN 66), (uN 3), (uN 59), (uN 3), (uN 60), (uN 16), (uN 10), (uN 188), (uN 10), (uN 77), (uN 26), (uN 16), (uN 10), (uN 162), (uN 0), (uN 15), (uN 44), (uN 26), (uN 26), (uN 26), (uN 104), (uN 79), (uN 132), (uN 0), (uN 1), (uN 167), (uN 255), (uN 241), (uN 44), (uN 17), (oN 10), (oN 11), (uN 44), (uN 17), (oN 13), (oN 14), (uN 17), (oN 16), (oN 17), (uN 184), (uN 0), (uN 8), (uN 3), (uN 59), (uN 26), (uN 16), (uN 10), (uN 162), (uN 0), (uN 18), (uN 27), (uN 16), (uN 7), (uN 104), (uN 44), (uN 26), (uN 46), (uN 96), (uN 60), (uN 132), (uN 0), (uN 1), (uN 167), (uN 255), (uN 238), (uN 27), (uN 172), (uN 0), (uN 0), (uN 0), (uN 1), (uN 0), (uN 11), (uN 0), (uN 0), (uN 0), (uN 50), (uN 0), (uN 4), (uN 255), (uN 0), (uN 9), (uN 0), (uN 3), (uN 1), (uN 1), (uN 7), (uN 0), (uN 2), (uN 0), (uN 0), (uN 255), (uN 0), (uN 17), (uN 0), (uN 3), (uN 1), (uN 1), (uN 7), (uN 0), (uN 2), (uN 0), (uN 0), (uN 255), (uN 0), (uN 15), (uN 0), (uN 3), (uN 1), (uN 1), (uN 7), (uN 0), (uN 2), (uN 0), (uN 0), (uN 255), (uN 0), (uN 20), (uN 0), (uN 3), (uN 1), (uN 1), (uN 7), (uN 0), (uN 2), (uN 0), (uN 0)])))
noncomputable abbrev q62 : Nat × Blk := (14126, (.cells 324 true [] (T.ofList 0 .leaf [(uN 0), (uN 17), (uN 1), (uN 0), (uN 2), (uN 91), (uN 73), (uN 7), (uN 0), (uN 1), (uN 1), (uN 0), (uN 16), (uN 106), (uN 97), (uN 118), (uN 97), (uN 47), (uN 108), (uN 97), (uN 110), (uN 103), (uN 47), (uN 83), (uN 121), (uN 115), (uN 116), (uN 101), (uN 109), (uN 7), (uN 0), (uN 3), (uN 1), (uN 0), (uN 9), (uN 97), (uN 114), (uN 114), (uN 97), (uN 121), (uN 99), (uN 111), (uN 112), (uN 121), (uN 1), (uN 0), (uN 42), (uN 40), (uN 76), (uN 106), (uN 97), (uN 118), (uN 97), (uN 47), (uN 108), (uN 97), (uN 110), (uN 103), (uN 47), (uN 79), (uN 98), (uN 106), (uN 101), (uN 99), (uN 116), (uN 59), (uN 73), (uN 76), (uN 106), (uN 97), (uN 118), (uN 97), (uN 47), (uN 108), (uN 97), (uN 110), (uN 103), (uN 47), (uN 79), (uN 98), (uN 106), (uN 101), (uN 99), (uN 116), (uN 59), (uN 73), (uN 73), (uN 41), (uN 86), (uN 12), (uN 0), (uN 5), (uN 0), (uN 6), (uN 10), (uN 0), (uN 4), (uN 0), (uN 7), (uN 1), (uN 0), (uN 2), (uN 103), (uN 111), (uN 1), (uN 0), (uN 3), (uN 40), (uN 41), (uN 73), (uN 1), (uN 0), (uN 13), (uN 83), (uN 116), (uN 97), (uN 99), (uN 107), (uN 77), (uN 97), (uN 112), (uN 84), (uN 97), (uN 98), (uN 108), (uN 101), (uN 1), (uN 0), (uN 4), (uN 67), (uN 111), (uN 100), (uN 101), (uN 1), (uN 0), (uN 1), (uN 77), (uN 7), (uN 0), (uN 13), (uN 1), (uN 0), (uN 16), (uN 106), (uN 97), (uN 118), (uN 97), (uN 47), (uN 108), (uN 97), (uN 110), (uN 103), (uN 47), (uN 79), (uN 98), (uN 106), (uN 101), (uN 99), (uN 116), (uN 7), (uN 0), (uN 15), (uN 0), (uN 33), (uN 0), (uN 14), (uN 0), (uN 16), (uN 0), (uN 0), (uN 0), (uN 0), (uN 0), (uN 1), (uN 0), (uN 9), (uN 0), (uN 9), (uN 0), (uN 10), (uN 0), (uN 1), (uN 0), (uN 12), (uN 0), (uN 0), (uN 0), (uN 134), (uN 0), (uN 5), (uN 0), (uN 3), (uN 0), (uN 0), (uN 0), (uN 66), (uN 3), (uN 59), (uN 3), (uN 60), (uN 16), (uN 10), (uN 188), (uN 10), (uN 77), (uN 26), (uN 16), (uN 10), (uN 162), (uN 0), (uN 15), (uN 44), (uN 26), (uN 26), (uN 26), (uN 104), (uN 79), (uN 132), (uN 0), (uN 1), (uN 167), (uN 255), (uN 241), (uN 44), (uN 17), (oN 10), (oN 11), (uN 44), (uN 17), (oN 13), (oN 14), (uN 17), (oN 16), (oN 17), (uN 184), (uN 0), (uN 8), (uN 3), (uN 59), (uN 26), (uN 16), (uN 10), (uN 162), (uN 0), (uN 18), (uN 27), (uN 16), (uN 7), (uN 104), (uN 44), (uN 26), (uN 46), (uN 96), (uN 60), (uN 132), (uN 0), (uN 1), (uN 167), (uN 255), (uN 238), (uN 27), (uN 172), (uN 0), (uN 0), (uN 0), (uN 1), (uN 0), (uN 11), (uN 0), (uN 0), (uN 0), (uN 50), (uN 0), (uN 4), (uN 255), (uN 0), (uN 9), (uN 0), (uN 3), (uN 1), (uN 1), (uN 7), (uN 0), (uN 2), (uN 0), (uN 0), (uN 255), (uN 0), (uN 17), (uN 0), (uN 3), (uN 1), (uN 1), (uN 7), (uN 0), (uN 2), (uN 0), (uN 0), (uN 255), (uN 0), (uN 15), (uN 0), (uN 3), (uN 1), (uN 1), (uN 7), (uN 0), (uN 2), (uN 0), (uN 0), (uN 255), (uN 0), (uN 20), (uN 0), (uN 3), (uN 1), (uN 1), (uN 7), (uN 0), (uN 2), (uN 0), (uN 0), (uN 0), (uN 0)])))
noncomputable abbrev q63 : Nat × Blk := (14127, (.cells 3 false [] (T.ofList 0 .leaf [(.so 14126 0 324 1), z0, bF])))
noncomputable abbrev q64 : Nat × Blk := (14128, (.cells 8 false [] (T.ofList 0 .leaf [(iN 52), .nils, z0, tx1, tx1, .nils, .nils, .nils])))
noncomputable abbrev q65 : Nat × Blk := (14129, (.cells 3 false [] (T.ofList 0 .leaf [(pN 14127), (pN 14128), bF])))
noncomputable abbrev q66 : Nat × Blk := g13820_2 (.so 24036 0 4 1) (.so 24037 0 4 1)
noncomputable abbrev q67 : Nat × Blk := (13821, (.map [(tx69, (pN 19191), 0), (tx5, (pN 19196), 1), (tx21, (pN 24111), 2)] 3))
noncomputable abbrev q68 : Nat × Blk := g13824_3 (.so 19207 0 1 1) bT (iN 262) z0 tx1 z0 z0
noncomputable abbrev q69 : Nat × Blk := g19202_4 (iN 64) z1
noncomputable abbrev q70 : Nat × Blk := g19205_5 (iN 65)
noncomputable abbrev q71 : Nat × Blk := g24036_6 (iN 10) (oN 189) (oN 189) (iN 10) (iN 9)
noncomputable abbrev q72 : Nat × Blk := g24037_7 bF bF bF
noncomputable abbrev q73 : Nat × Blk := g13820_2 (.so 24036 0 3 1) (.so 24037 0 3 1)
noncomputable abbrev q74 : Nat × Blk := g13824_3 (.so 19207 0 1 1) bT (iN 261) z0 tx1 z0 z0
noncomputable abbrev q75 : Nat × Blk := g19202_4 (iN 46) z0
noncomputable abbrev q76 : Nat × Blk := g19205_5 (iN 64)
noncomputable abbrev q77 : Nat × Blk := g24036_6 (iN 10) (oN 189) (iN 10) (iN 10) (iN 9)
noncomputable abbrev q78 : Nat × Blk := g13820_2 (.so 24036 0 5 1) (.so 24037 0 5 1)
noncomputable abbrev q79 : Nat × Blk := g13824_3 (.so 19207 0 1 1) bT (iN 260) z0 tx1 z0 z0
noncomputable abbrev q80 : Nat × Blk := g19202_4 (iN 44) z2
noncomputable abbrev q81 : Nat × Blk := g19205_5 (iN 46)
noncomputable abbrev q82 : Nat × Blk := g13824_3 (.so 19207 0 1 1) bT (iN 259) z0 tx1 z0 z0
noncomputable abbrev q83 : Nat × Blk := g19202_4 (iN 43) z1
noncomputable abbrev q84 : Nat × Blk := g19205_5 (iN 44)
noncomputable abbrev q85 : Nat × Blk := g24036_6 (iN 10) (oN 189) (iN 10) (oN 182) (iN 9)
noncomputable abbrev q86 : Nat × Blk := g13824_3 (.so 19207 0 1 1) bT (iN 258) z0 tx1 z0 z0
noncomputable abbrev q87 : Nat × Blk := g19202_4 (iN 61) z0
noncomputable abbrev q88 : Nat × Blk := g19205_5 (iN 43)
noncomputable abbrev q89 : Nat × Blk := g24036_6 (iN 10) (oN 189) (oN 189) (oN 182) (iN 9)
noncomputable abbrev q90 : Nat × Blk := g13824_3 (.so 19207 0 1 1) bT (iN 257) z0 tx1 z0 z0
noncomputable abbrev q91 : Nat × Blk := g19202_4 (iN 58) z0
noncomputable abbrev q92 : Nat × Blk := g19205_5 (iN 61)
noncomputable abbrev q93 : Nat × Blk := g13824_3 (.so 19207 0 1 1) bT (iN 256) z0 tx1 z0 z0
noncomputable abbrev q94 : Nat × Blk := g19202_4 (iN 57) z0
noncomputable abbrev q95 : Nat × Blk := g19205_5 (iN 58)
noncomputable abbrev q96 : Nat × Blk := g24036_6 (iN 9) (oN 189) (oN 189) (oN 182) (iN 9)
noncomputable abbrev q97 : Nat × Blk := g13824_3 (.so 19207 0 1 1) bT (iN 255) z0 tx1 z0 z0
noncomputable abbrev q98 : Nat × Blk := g19202_4 (iN 56) z1
noncomputable abbrev q99 : Nat × Blk := g19205_5 (iN 57)
noncomputable abbrev q100 : Nat × Blk := g24036_6 (iN 9) (oN 173) (oN 189) (oN 182) (iN 9)
noncomputable abbrev q101 : Nat × Blk := g13824_3 (.so 19207 0 1 1) bT (iN 254) z0 tx1 z0 z0
noncomputable abbrev q102 : Nat × Blk := g19202_4 (iN 55) z2
noncomputable abbrev q103 : Nat × Blk := g19205_5 (iN 56)
noncomputable abbrev q104 : Nat × Blk := g24036_6 (iN 9) (oN 173) (oN 178) (oN 182) (iN 9)
noncomputable abbrev q105 : Nat × Blk := g13820_2 (.so 24036 0 6 1) (.so 24037 0 6 1)
noncomputable abbrev q106 : Nat × Blk := g13824_3 (.so 19207 0 1 1) bT (iN 253) z0 tx1 z0 z0
noncomputable abbrev q107 : Nat × Blk := g19202_4 (iN 54) (iN 3)
noncomputable abbrev q108 : Nat × Blk := g19205_5 (iN 55)
noncomputable abbrev q109 : Nat × Blk := g19440_0 (oN 33) (oN 34) (oN 35) (oN 36) (oN 37)
noncomputable abbrev q110 : Nat × Blk := g24036_6 (iN 9) (oN 173) (oN 178) (iN 9) (iN 9)
noncomputable abbrev q111 : Nat × Blk := g24037_7 bF bT bF
noncomputable abbrev q112 : Nat × Blk := g13824_3 (.so 19207 0 1 1) bT (iN 252) z0 tx1 z0 z0
noncomputable abbrev q113 : Nat × Blk := g19202_4 (iN 53) z2
noncomputable abbrev q114 : Nat × Blk := g19205_5 (iN 54)
noncomputable abbrev q115 : Nat × Blk := g24036_6 (iN 9) (oN 173) (oN 178) (iN 9) (iN 8)
noncomputable abbrev q116 : Nat × Blk := g13824_3 (.so 19207 0 1 1) bT (iN 251) z0 tx1 z0 z0
noncomputable abbrev q117 : Nat × Blk := g19202_4 (iN 52) z1
noncomputable abbrev q118 : Nat × Blk := g19205_5 (iN 53)
noncomputable abbrev q119 : Nat × Blk := g24036_6 (iN 9) (oN 173) (oN 178) (iN 7) (iN 8)
noncomputable abbrev q120 : Nat × Blk := g13824_3 (.so 19207 0 1 1) bT (iN 250) z0 tx1 z0 z0
noncomputable abbrev q121 : Nat × Blk := g19202_4 (iN 50) z2
noncomputable abbrev q122 : Nat × Blk := g19205_5 (iN 52)
noncomputable abbrev q123 : Nat × Blk := g24036_6 (iN 9) (oN 173) (oN 173) (iN 7) (iN 8)
noncomputable abbrev q124 : Nat × Blk := g13824_3 (.so 19207 0 1 1) bT (iN 249) z0 tx1 z0 z0
noncomputable abbrev q125 : Nat × Blk := g19202_4 (iN 49) z1
noncomputable abbrev q126 : Nat × Blk := g19205_5 (iN 50)
noncomputable abbrev q127 : Nat × Blk := g24036_6 (iN 9) (oN 173) (oN 173) (iN 10) (iN 8)
noncomputable abbrev q128 : Nat × Blk := g13824_3 (.so 19207 0 1 1) bT (iN 248) z0 tx1 z0 z0
noncomputable abbrev q129 : Nat × Blk := g19205_5 (iN 49)
noncomputable abbrev q130 : Nat × Blk := g24036_6 (iN 9) (oN 173) (iN 9) (iN 10) (iN 8)
noncomputable abbrev q131 : Nat × Blk := g13824_3 (.so 19207 0 1 1) bT (iN 247) z0 tx1 z0 z0
noncomputable abbrev q132 : Nat × Blk := g13824_3 (.so 19207 0 1 1) bT (iN 246) z0 tx1 z0 z0
noncomputable abbrev q133 : Nat × Blk := g24036_6 (iN 9) (oN 173) (iN 9) (oN 166) (iN 8)
noncomputable abbrev q134 : Nat × Blk := g13824_3 (.so 19207 0 1 1) bT (iN 245) z0 tx1 z0 z0
noncomputable abbrev q135 : Nat × Blk := g24036_6 (iN 9) (oN 173) (oN 173) (oN 166) (iN 8)
noncomputable abbrev q136 : Nat × Blk := g13824_3 (.so 19207 0 1 1) bT (iN 244) z0 tx1 z0 z0
noncomputable abbrev q137 : Nat × Blk := g13824_3 (.so 19207 0 1 1) bT (iN 243) z0 tx1 z0 z0
noncomputable abbrev q138 : Nat × Blk := g24036_6 (iN 8) (oN 173) (oN 173) (oN 166) (iN 8)
noncomputable abbrev q139 : Nat × Blk := g13824_3 (.so 19207 0 1 1) bT (iN 242) z0 tx1 z0 z0
noncomputable abbrev q140 : Nat × Blk := g24036_6 (iN 8) (oN 157) (oN 173) (oN 166) (iN 8)
noncomputable abbrev q141 : Nat × Blk := g13824_3 (.so 19207 0 1 1) bT (iN 241) z0 tx1 z0 z0
noncomputable abbrev q142 : Nat × Blk := g24036_6 (iN 8) (oN 157) (oN 162) (oN 166) (iN 8)
noncomputable abbrev q143 : Nat × Blk := g13824_3 (.so 19207 0 1 1) bT (iN 240) z0 tx1 z0 z0
noncomputable abbrev q144 : Nat × Blk := g24036_6 (iN 8) (oN 157) (oN 162) (iN 9) (iN 8)
noncomputable abbrev q145 : Nat × Blk := g13824_3 (.so 19207 0 1 1) bT (iN 239) z0 tx1 z0 z0
noncomputable abbrev q146 : Nat × Blk := g24036_6 (iN 8) (oN 157) (oN 162) (iN 9) (iN 7)
noncomputable abbrev q147 : Nat × Blk := g13824_3 (.so 19207 0 1 1) bT (iN 238) z0 tx1 z0 z0
noncomputable abbrev q148 : Nat × Blk := g24036_6 (iN 8) (oN 157) (oN 162) (iN 7) (iN 7)
noncomputable abbrev q149 : Nat × Blk := g13824_3 (.so 19207 0 1 1) bT (iN 237) z0 tx1 z0 z0
noncomputable abbrev q150 : Nat × Blk := g24036_6 (iN 8) (oN 157) (oN 157) (iN 7) (iN 7)
noncomputable abbrev q151 : Nat × Blk := g13824_3 (.so 19207 0 1 1) bT (iN 236) z0 tx1 z0 z0
noncomputable abbrev q152 : Nat × Blk := g24036_6 (iN 8) (oN 157) (oN 157) (iN 10) (iN 7)
noncomputable abbrev q153 : Nat × Blk := g13824_3 (.so 19207 0 1 1) bT (iN 235) z0 tx1 z0 z0
noncomputable abbrev q154 : Nat × Blk := g24036_6 (iN 8) (oN 157) (iN 8) (iN 10) (iN 7)
noncomputable abbrev q155 : Nat × Blk := g13824_3 (.so 19207 0 1 1) bT (iN 234) z0 tx1 z0 z0
noncomputable abbrev q156 : Nat × Blk := g13824_3 (.so 19207 0 1 1) bT (iN 233) z0 tx1 z0 z0
noncomputable abbrev q157 : Nat × Blk := g24036_6 (iN 8) (oN 157) (iN 8) (oN 150) (iN 7)
noncomputable abbrev q158 : Nat × Blk := g13824_3 (.so 19207 0 1 1) bT (iN 232) z0 tx1 z0 z0
noncomputable abbrev q159 : Nat × Blk := g24036_6 (iN 8) (oN 157) (oN 157) (oN 150) (iN 7)
noncomputable abbrev q160 : Nat × Blk := g13824_3 (.so 19207 0 1 1) bT (iN 231) z0 tx1 z0 z0
noncomputable abbrev q161 : Nat × Blk := g13824_3 (.so 19207 0 1 1) bT (iN 230) z0 tx1 z0 z0
noncomputable abbrev q162 : Nat × Blk := g24036_6 (iN 7) (oN 157) (oN 157) (oN 150) (iN 7)
noncomputable abbrev q163 : Nat × Blk := g13824_3 (.so 19207 0 1 1) bT (iN 229) z0 tx1 z0 z0
noncomputable abbrev q164 : Nat × Blk := g24036_6 (iN 7) (oN 141) (oN 157) (oN 150) (iN 7)
noncomputable abbrev q165 : Nat × Blk := g13824_3 (.so 19207 0 1 1) bT (iN 228) z0 tx1 z0 z0
noncomputable abbrev q166 : Nat × Blk := g24036_6 (iN 7) (oN 141) (oN 146) (oN 150) (iN 7)
noncomputable abbrev q167 : Nat × Blk := g13824_3 (.so 19207 0 1 1) bT (iN 227) z0 tx1 z0 z0
noncomputable abbrev q168 : Nat × Blk := g24036_6 (iN 7) (oN 141) (oN 146) (iN 9) (iN 7)
noncomputable abbrev q169 : Nat × Blk := g13824_3 (.so 19207 0 1 1) bT (iN 226) z0 tx1 z0 z0
noncomputable abbrev q170 : Nat × Blk := g24036_6 (iN 7) (oN 141) (oN 146) (iN 9) (iN 6)
noncomputable abbrev q171 : Nat × Blk := g13824_3 (.so 19207 0 1 1) bT (iN 225) z0 tx1 z0 z0
noncomputable abbrev q172 : Nat × Blk := g24036_6 (iN 7) (oN 141) (oN 146) (iN 7) (iN 6)
noncomputable abbrev q173 : Nat × Blk := g13824_3 (.so 19207 0 1 1) bT (iN 224) z0 tx1 z0 z0
noncomputable abbrev q174 : Nat × Blk := g24036_6 (iN 7) (oN 141) (oN 141) (iN 7) (iN 6)
noncomputable abbrev q175 : Nat × Blk := g13824_3 (.so 19207 0 1 1) bT (iN 223) z0 tx1 z0 z0
noncomputable abbrev q176 : Nat × Blk := g24036_6 (iN 7) (oN 141) (oN 141) (iN 10) (iN 6)
noncomputable abbrev q177 : Nat × Blk := g13824_3 (.so 19207 0 1 1) bT (iN 222) z0 tx1 z0 z0
noncomputable abbrev q178 : Nat × Blk := g24036_6 (iN 7) (oN 141) (iN 7) (iN 10) (iN 6)
noncomputable abbrev q179 : Nat × Blk := g13824_3 (.so 19207 0 1 1) bT (iN 221) z0 tx1 z0 z0
noncomputable abbrev q180 : Nat × Blk := g13824_3 (.so 19207 0 1 1) bT (iN 220) z0 tx1 z0 z0
noncomputable abbrev q181 : Nat × Blk := g24036_6 (iN 7) (oN 141) (iN 7) (oN 134) (iN 6)
noncomputable abbrev q182 : Nat × Blk := g13824_3 (.so 19207 0 1 1) bT (iN 219) z0 tx1 z0 z0
noncomputable abbrev q183 : Nat × Blk := g24036_6 (iN 7) (oN 141) (oN 141) (oN 134) (iN 6)
noncomputable abbrev q184 : Nat × Blk := g13824_3 (.so 19207 0 1 1) bT (iN 218) z0 tx1 z0 z0
noncomputable abbrev q185 : Nat × Blk := g13824_3 (.so 19207 0 1 1) bT (iN 217) z0 tx1 z0 z0
noncomputable abbrev q186 : Nat × Blk := g24036_6 (iN 6) (oN 141) (oN 141) (oN 134) (iN 6)
noncomputable abbrev q187 : Nat × Blk := g13824_3 (.so 19207 0 1 1) bT (iN 216) z0 tx1 z0 z0
noncomputable abbrev q188 : Nat × Blk := g24036_6 (iN 6) (oN 125) (oN 141) (oN 134) (iN 6)
noncomputable abbrev q189 : Nat × Blk := g13824_3 (.so 19207 0 1 1) bT (iN 215) z0 tx1 z0 z0
noncomputable abbrev q190 : Nat × Blk := g24036_6 (iN 6) (oN 125) (oN 130) (oN 134) (iN 6)
noncomputable abbrev q191 : Nat × Blk := g13824_3 (.so 19207 0 1 1) bT (iN 214) z0 tx1 z0 z0
noncomputable abbrev q192 : Nat × Blk := g24036_6 (iN 6) (oN 125) (oN 130) (iN 9) (iN 6)
noncomputable abbrev q193 : Nat × Blk := g13824_3 (.so 19207 0 1 1) bT (iN 213) z0 tx1 z0 z0
noncomputable abbrev q194 : Nat × Blk := g24036_6 (iN 6) (oN 125) (oN 130) (iN 9) (iN 5)
noncomputable abbrev q195 : Nat × Blk := g13824_3 (.so 19207 0 1 1) bT (iN 212) z0 tx1 z0 z0
noncomputable abbrev q196 : Nat × Blk := g24036_6 (iN 6) (oN 125) (oN 130) (iN 7) (iN 5)
noncomputable abbrev q197 : Nat × Blk := g13824_3 (.so 19207 0 1 1) bT (iN 211) z0 tx1 z0 z0
noncomputable abbrev q198 : Nat × Blk := g24036_6 (iN 6) (oN 125) (oN 125) (iN 7) (iN 5)
noncomputable abbrev q199 : Nat × Blk := g13824_3 (.so 19207 0 1 1) bT (iN 210) z0 tx1 z0 z0
noncomputable abbrev q200 : Nat × Blk := g24036_6 (iN 6) (oN 125) (oN 125) (iN 10) (iN 5)
noncomputable abbrev q201 : Nat × Blk := g13824_3 (.so 19207 0 1 1) bT (iN 209) z0 tx1 z0 z0
noncomputable abbrev q202 : Nat × Blk := g24036_6 (iN 6) (oN 125) (iN 6) (iN 10) (iN 5)
noncomputable abbrev q203 : Nat × Blk := g13824_3 (.so 19207 0 1 1) bT (iN 208) z0 tx1 z0 z0
noncomputable abbrev q204 : Nat × Blk := g13824_3 (.so 19207 0 1 1) bT (iN 207) z0 tx1 z0 z0
noncomputable abbrev q205 : Nat × Blk := g24036_6 (iN 6) (oN 125) (iN 6) (oN 118) (iN 5)
noncomputable abbrev q206 : Nat × Blk := g13824_3 (.so 19207 0 1 1) bT (iN 206) z0 tx1 z0 z0
noncomputable abbrev q207 : Nat × Blk := g24036_6 (iN 6) (oN 125) (oN 125) (oN 118) (iN 5)
noncomputable abbrev q208 : Nat × Blk := g13824_3 (.so 19207 0 1 1) bT (iN 205) z0 tx1 z0 z0
noncomputable abbrev q209 : Nat × Blk := g13824_3 (.so 19207 0 1 1) bT (iN 204) z0 tx1 z0 z0
noncomputable abbrev q210 : Nat × Blk := g24036_6 (iN 5) (oN 125) (oN 125) (oN 118) (iN 5)
noncomputable abbrev q211 : Nat × Blk := g13824_3 (.so 19207 0 1 1) bT (iN 203) z0 tx1 z0 z0
noncomputable abbrev q212 : Nat × Blk := g24036_6 (iN 5) (oN 109) (oN 125) (oN 118) (iN 5)
noncomputable abbrev q213 : Nat × Blk := g13824_3 (.so 19207 0 1 1) bT (iN 202) z0 tx1 z0 z0
noncomputable abbrev q214 : Nat × Blk := g24036_6 (iN 5) (oN 109) (oN 114) (oN 118) (iN 5)
noncomputable abbrev q215 : Nat × Blk := g13824_3 (.so 19207 0 1 1) bT (iN 201) z0 tx1 z0 z0
noncomputable abbrev q216 : Nat × Blk := g24036_6 (iN 5) (oN 109) (oN 114) (iN 9) (iN 5)
noncomputable abbrev q217 : Nat × Blk := g13824_3 (.so 19207 0 1 1) bT (iN 200) z0 tx1 z0 z0
noncomputable abbrev q218 : Nat × Blk := g24036_6 (iN 5) (oN 109) (oN 114) (iN 9) (iN 4)
noncomputable abbrev q219 : Nat × Blk := g13824_3 (.so 19207 0 1 1) bT (iN 199) z0 tx1 z0 z0
noncomputable abbrev q220 : Nat × Blk := g24036_6 (iN 5) (oN 109) (oN 114) (iN 7) (iN 4)
noncomputable abbrev q221 : Nat × Blk := g13824_3 (.so 19207 0 1 1) bT (iN 198) z0 tx1 z0 z0
noncomputable abbrev q222 : Nat × Blk := g24036_6 (iN 5) (oN 109) (oN 109) (iN 7) (iN 4)
noncomputable abbrev q223 : Nat × Blk := g13824_3 (.so 19207 0 1 1) bT (iN 197) z0 tx1 z0 z0
noncomputable abbrev q224 : Nat × Blk := g24036_6 (iN 5) (oN 109) (oN 109) (iN 10) (iN 4)
noncomputable abbrev q225 : Nat × Blk := g13824_3 (.so 19207 0 1 1) bT (iN 196) z0 tx1 z0 z0
noncomputable abbrev q226 : Nat × Blk := g24036_6 (iN 5) (oN 109) (iN 5) (iN 10) (iN 4)
noncomputable abbrev q227 : Nat × Blk := g13824_3 (.so 19207 0 1 1) bT (iN 195) z0 tx1 z0 z0
noncomputable abbrev q228 : Nat × Blk := g13824_3 (.so 19207 0 1 1) bT (iN 194) z0 tx1 z0 z0
noncomputable abbrev q229 : Nat × Blk := g24036_6 (iN 5) (oN 109) (iN 5) (oN 102) (iN 4)
noncomputable abbrev q230 : Nat × Blk := g13824_3 (.so 19207 0 1 1) bT (iN 193) z0 tx1 z0 z0
noncomputable abbrev q231 : Nat × Blk := g24036_6 (iN 5) (oN 109) (oN 109) (oN 102) (iN 4)
noncomputable abbrev q232 : Nat × Blk := g13824_3 (.so 19207 0 1 1) bT (iN 192) z0 tx1 z0 z0
noncomputable abbrev q233 : Nat × Blk := g13824_3 (.so 19207 0 1 1) bT (iN 191) z0 tx1 z0 z0
noncomputable abbrev q234 : Nat × Blk := g24036_6 (iN 4) (oN 109) (oN 109) (oN 102) (iN 4)
noncomputable abbrev q235 : Nat × Blk := g13824_3 (.so 19207 0 1 1) bT (iN 190) z0 tx1 z0 z0
noncomputable abbrev q236 : Nat × Blk := g24036_6 (iN 4) (oN 93) (oN 109) (oN 102) (iN 4)
noncomputable abbrev q237 : Nat × Blk := g13824_3 (.so 19207 0 1 1) bT (iN 189) z0 tx1 z0 z0
noncomputable abbrev q238 : Nat × Blk := g24036_6 (iN 4) (oN 93) (oN 98) (oN 102) (iN 4)
noncomputable abbrev q239 : Nat × Blk := g13824_3 (.so 19207 0 1 1) bT (iN 188) z0 tx1 z0 z0
noncomputable abbrev q240 : Nat × Blk := g24036_6 (iN 4) (oN 93) (oN 98) (iN 9) (iN 4)
noncomputable abbrev q241 : Nat × Blk := g13824_3 (.so 19207 0 1 1) bT (iN 187) z0 tx1 z0 z0
noncomputable abbrev q242 : Nat × Blk := g24036_6 (iN 4) (oN 93) (oN 98) (iN 9) (iN 3)
noncomputable abbrev q243 : Nat × Blk := g13824_3 (.so 19207 0 1 1) bT (iN 186) z0 tx1 z0 z0
noncomputable abbrev q244 : Nat × Blk := g24036_6 (iN 4) (oN 93) (oN 98) (iN 7) (iN 3)
noncomputable abbrev q245 : Nat × Blk := g13824_3 (.so 19207 0 1 1) bT (iN 185) z0 tx1 z0 z0
noncomputable abbrev q246 : Nat × Blk := g24036_6 (iN 4) (oN 93) (oN 93) (iN 7) (iN 3)
noncomputable abbrev q247 : Nat × Blk := g13824_3 (.so 19207 0 1 1) bT (iN 184) z0 tx1 z0 z0
noncomputable abbrev q248 : Nat × Blk := g24036_6 (iN 4) (oN 93) (oN 93) (iN 10) (iN 3)
noncomputable abbrev q249 : Nat × Blk := g13824_3 (.so 19207 0 1 1) bT (iN 183) z0 tx1 z0 z0
noncomputable abbrev q250 : Nat × Blk := g24036_6 (iN 4) (oN 93) (iN 4) (iN 10) (iN 3)
noncomputable abbrev q251 : Nat × Blk := g13824_3 (.so 19207 0 1 1) bT (iN 182) z0 tx1 z0 z0
noncomputable abbrev q252 : Nat × Blk := g13824_3 (.so 19207 0 1 1) bT (iN 181) z0 tx1 z0 z0
noncomputable abbrev q253 : Nat × Blk := g24036_6 (iN 4) (oN 93) (iN 4) (oN 86) (iN 3)
noncomputable abbrev q254 : Nat × Blk := g13824_3 (.so 19207 0 1 1) bT (iN 180) z0 tx1 z0 z0
noncomputable abbrev q255 : Nat × Blk := g24036_6 (iN 4) (oN 93) (oN 93) (oN 86) (iN 3)
noncomputable abbrev q256 : Nat × Blk := g13824_3 (.so 19207 0 1 1) bT (iN 179) z0 tx1 z0 z0
noncomputable abbrev q257 : Nat × Blk := g13824_3 (.so 19207 0 1 1) bT (iN 178) z0 tx1 z0 z0
noncomputable abbrev q258 : Nat × Blk := g24036_6 (iN 3) (oN 93) (oN 93) (oN 86) (iN 3)
noncomputable abbrev q259 : Nat × Blk := g13824_3 (.so 19207 0 1 1) bT (iN 177) z0 tx1 z0 z0
noncomputable abbrev q260 : Nat × Blk := g24036_6 (iN 3) (oN 77) (oN 93) (oN 86) (iN 3)
noncomputable abbrev q261 : Nat × Blk := g13824_3 (.so 19207 0 1 1) bT (iN 176) z0 tx1 z0 z0
noncomputable abbrev q262 : Nat × Blk := g24036_6 (iN 3) (oN 77) (oN 82) (oN 86) (iN 3)
noncomputable abbrev q263 : Nat × Blk := g13824_3 (.so 19207 0 1 1) bT (iN 175) z0 tx1 z0 z0
noncomputable abbrev q264 : Nat × Blk := g24036_6 (iN 3) (oN 77) (oN 82) (iN 9) (iN 3)
noncomputable abbrev q265 : Nat × Blk := g13824_3 (.so 19207 0 1 1) bT (iN 174) z0 tx1 z0 z0
noncomputable abbrev q266 : Nat × Blk := g24036_6 (iN 3) (oN 77) (oN 82) (iN 9) z2
noncomputable abbrev q267 : Nat × Blk := g13824_3 (.so 19207 0 1 1) bT (iN 173) z0 tx1 z0 z0
noncomputable abbrev q268 : Nat × Blk := g24036_6 (iN 3) (oN 77) (oN 82) (iN 7) z2
noncomputable abbrev q269 : Nat × Blk := g13824_3 (.so 19207 0 1 1) bT (iN 172) z0 tx1 z0 z0
noncomputable abbrev q270 : Nat × Blk := g24036_6 (iN 3) (oN 77) (oN 77) (iN 7) z2
noncomputable abbrev q271 : Nat × Blk := g13824_3 (.so 19207 0 1 1) bT (iN 171) z0 tx1 z0 z0
noncomputable abbrev q272 : Nat × Blk := g24036_6 (iN 3) (oN 77) (oN 77) (iN 10) z2
noncomputable abbrev q273 : Nat × Blk := g13824_3 (.so 19207 0 1 1) bT (iN 170) z0 tx1 z0 z0
noncomputable abbrev q274 : Nat × Blk := g24036_6 (iN 3) (oN 77) (iN 3) (iN 10) z2
noncomputable abbrev q275 : Nat × Blk := g13824_3 (.so 19207 0 1 1) bT (iN 169) z0 tx1 z0 z0
noncomputable abbrev q276 : Nat × Blk := g13824_3 (.so 19207 0 1 1) bT (iN 168) z0 tx1 z0 z0
noncomputable abbrev q277 : Nat × Blk := g24036_6 (iN 3) (oN 77) (iN 3) (oN 70) z2
noncomputable abbrev q278 : Nat × Blk := g13824_3 (.so 19207 0 1 1) bT (iN 167) z0 tx1 z0 z0
noncomputable abbrev q279 : Nat × Blk := g24036_6 (iN 3) (oN 77) (oN 77) (oN 70) z2
noncomputable abbrev q280 : Nat × Blk := g13824_3 (.so 19207 0 1 1) bT (iN 166) z0 tx1 z0 z0
noncomputable abbrev q281 : Nat × Blk := g13824_3 (.so 19207 0 1 1) bT (iN 165) z0 tx1 z0 z0
noncomputable abbrev q282 : Nat × Blk := g24036_6 z2 (oN 77) (oN 77) (oN 70) z2
noncomputable abbrev q283 : Nat × Blk := g13824_3 (.so 19207 0 1 1) bT (iN 164) z0 tx1 z0 z0
noncomputable abbrev q284 : Nat × Blk := g24036_6 z2 (oN 61) (oN 77) (oN 70) z2
noncomputable abbrev q285 : Nat × Blk := g13824_3 (.so 19207 0 1 1) bT (iN 163) z0 tx1 z0 z0
noncomputable abbrev q286 : Nat × Blk := g24036_6 z2 (oN 61) (oN 66) (oN 70) z2
noncomputable abbrev q287 : Nat × Blk := g13824_3 (.so 19207 0 1 1) bT (iN 162) z0 tx1 z0 z0
noncomputable abbrev q288 : Nat × Blk := g24036_6 z2 (oN 61) (oN 66) (iN 9) z2
noncomputable abbrev q289 : Nat × Blk := g13824_3 (.so 19207 0 1 1) bT (iN 161) z0 tx1 z0 z0
noncomputable abbrev q290 : Nat × Blk := g24036_6 z2 (oN 61) (oN 66) (iN 9) z1
noncomputable abbrev q291 : Nat × Blk := g13824_3 (.so 19207 0 1 1) bT (iN 160) z0 tx1 z0 z0
noncomputable abbrev q292 : Nat × Blk := g24036_6 z2 (oN 61) (oN 66) (iN 7) z1
noncomputable abbrev q293 : Nat × Blk := g13824_3 (.so 19207 0 1 1) bT (iN 159) z0 tx1 z0 z0
noncomputable abbrev q294 : Nat × Blk := g24036_6 z2 (oN 61) (oN 61) (iN 7) z1
noncomputable abbrev q295 : Nat × Blk := g13824_3 (.so 19207 0 1 1) bT (iN 158) z0 tx1 z0 z0
noncomputable abbrev q296 : Nat × Blk := g24036_6 z2 (oN 61) (oN 61) (iN 10) z1
noncomputable abbrev q297 : Nat × Blk := g13824_3 (.so 19207 0 1 1) bT (iN 157) z0 tx1 z0 z0
noncomputable abbrev q298 : Nat × Blk := g24036_6 z2 (oN 61) z2 (iN 10) z1
noncomputable abbrev q299 : Nat × Blk := g13824_3 (.so 19207 0 1 1) bT (iN 156) z0 tx1 z0 z0
noncomputable abbrev q300 : Nat × Blk := g13824_3 (.so 19207 0 1 1) bT (iN 155) z0 tx1 z0 z0
noncomputable abbrev q301 : Nat × Blk := g24036_6 z2 (oN 61) z2 (oN 54) z1
noncomputable abbrev q302 : Nat × Blk := g13824_3 (.so 19207 0 1 1) bT (iN 154) z0 tx1 z0 z0
noncomputable abbrev q303 : Nat × Blk := g24036_6 z2 (oN 61) (oN 61) (oN 54) z1
noncomputable abbrev q304 : Nat × Blk := g13824_3 (.so 19207 0 1 1) bT (iN 153) z0 tx1 z0 z0
noncomputable abbrev q305 : Nat × Blk := g13824_3 (.so 19207 0 1 1) bT (iN 152) z0 tx1 z0 z0
noncomputable abbrev q306 : Nat × Blk := g24036_6 z1 (oN 61) (oN 61) (oN 54) z1
noncomputable abbrev q307 : Nat × Blk := g13824_3 (.so 19207 0 1 1) bT (iN 151) z0 tx1 z0 z0
noncomputable abbrev q308 : Nat × Blk := g24036_6 z1 (oN 45) (oN 61) (oN 54) z1
noncomputable abbrev q309 : Nat × Blk := g13824_3 (.so 19207 0 1 1) bT (iN 150) z0 tx1 z0 z0
noncomputable abbrev q310 : Nat × Blk := g24036_6 z1 (oN 45) (oN 50) (oN 54) z1
noncomputable abbrev q311 : Nat × Blk := g13824_3 (.so 19207 0 1 1) bT (iN 149) z0 tx1 z0 z0
noncomputable abbrev q312 : Nat × Blk := g24036_6 z1 (oN 45) (oN 50) (iN 9) z1
noncomputable abbrev q313 : Nat × Blk := g13824_3 (.so 19207 0 1 1) bT (iN 148) z0 tx1 z0 z0
noncomputable abbrev q314 : Nat × Blk := g24036_6 z1 (oN 45) (oN 50) (iN 9) z0
noncomputable abbrev q315 : Nat × Blk := g13824_3 (.so 19207 0 1 1) bT (iN 147) z0 tx1 z0 z0
noncomputable abbrev q316 : Nat × Blk := g24036_6 z1 (oN 45) (oN 50) (iN 7) z0
noncomputable abbrev q317 : Nat × Blk := g13824_3 (.so 19207 0 1 1) bT (iN 146) z0 tx1 z0 z0
noncomputable abbrev q318 : Nat × Blk := g24036_6 z1 (oN 45) (oN 45) (iN 7) z0
noncomputable abbrev q319 : Nat × Blk := g13824_3 (.so 19207 0 1 1) bT (iN 145) z0 tx1 z0 z0
noncomputable abbrev q320 : Nat × Blk := g24036_6 z1 (oN 45) (oN 45) (iN 10) z0
noncomputable abbrev q321 : Nat × Blk := g13824_3 (.so 19207 0 1 1) bT (iN 144) z0 tx1 z0 z0
noncomputable abbrev q322 : Nat × Blk := g24036_6 z1 (oN 45) z1 (iN 10) z0
noncomputable abbrev q323 : Nat × Blk := g13824_3 (.so 19207 0 1 1) bT (iN 143) z0 tx1 z0 z0
noncomputable abbrev q324 : Nat × Blk := g13824_3 (.so 19207 0 1 1) bT (iN 142) z0 tx1 z0 z0
noncomputable abbrev q325 : Nat × Blk := g24036_6 z1 (oN 45) z1 (oN 41) z0
noncomputable abbrev q326 : Nat × Blk := g13824_3 (.so 19207 0 1 1) bT (iN 141) z0 tx1 z0 z0
noncomputable abbrev q327 : Nat × Blk := g24036_6 z1 (oN 45) (oN 45) (oN 41) z0
noncomputable abbrev q328 : Nat × Blk := g13824_3 (.so 19207 0 1 1) bT (iN 140) z0 tx1 z0 z0
noncomputable abbrev q329 : Nat × Blk := g13824_3 (.so 19207 0 1 1) bT (iN 139) z0 tx1 z0 z0
noncomputable abbrev q330 : Nat × Blk := g24036_6 z0 (oN 45) (oN 45) (oN 41) z0
noncomputable abbrev q331 : Nat × Blk := g13824_3 (.so 19207 0 1 1) bT (iN 138) z0 tx1 z0 z0
noncomputable abbrev q332 : Nat × Blk := g24036_6 z0 z0 (oN 45) (oN 41) z0
noncomputable abbrev q333 : Nat × Blk := g13824_3 (.so 19207 0 1 1) bT (iN 137) z0 tx1 z0 z0
noncomputable abbrev q334 : Nat × Blk := g24036_6 z0 z0 z0 (oN 41) z0
noncomputable abbrev q335 : Nat × Blk := g13824_3 (.so 19207 0 1 1) bT (iN 136) z0 tx1 z0 z0
noncomputable abbrev q336 : Nat × Blk := g24036_6 z0 z0 z0 (iN 9) z0
noncomputable abbrev q337 : Nat × Blk := g13824_3 (.so 19207 0 1 1) bT (iN 135) z0 tx1 z0 z0
noncomputable abbrev q338 : Nat × Blk := g24036_6 z0 z0 z0 (iN 9) (iN 9)
noncomputable abbrev q339 : Nat × Blk := g24037_7 bF bT bT
noncomputable abbrev q340 : Nat × Blk := g13824_3 (.so 19207 0 1 1) bT (iN 134) z0 tx1 z0 z0
noncomputable abbrev q341 : Nat × Blk := g24036_6 z0 z0 z0 (iN 7) (iN 9)
noncomputable abbrev q342 : Nat × Blk := g24037_7 bF bF bT
noncomputable abbrev q343 : Nat × Blk := g13824_3 (.so 19207 0 1 1) bT (iN 133) z0 tx1 z0 z0
noncomputable abbrev q344 : Nat × Blk := g13824_3 (.so 19207 0 1 1) bT (iN 132) z0 tx1 z0 z0
noncomputable abbrev q345 : Nat × Blk := g24036_6 z0 z0 z0 (iN 10) (iN 9)
noncomputable abbrev q346 : Nat × Blk := g13824_3 (.so 19207 0 1 1) bT (iN 131) z0 tx1 z0 z0
noncomputable abbrev q347 : Nat × Blk := g13824_3 (.so 19207 0 1 1) bT (iN 130) z0 tx1 z0 z0
noncomputable abbrev q348 : Nat × Blk := g13824_3 (.so 19207 0 1 1) bT (iN 129) z0 tx1 z0 z0
noncomputable abbrev q349 : Nat × Blk := g24036_6 z0 z0 z0 (oN 22) (iN 9)
noncomputable abbrev q350 : Nat × Blk := g13824_3 (.so 19207 0 1 1) bT (iN 128) z0 tx1 z0 z0
noncomputable abbrev q351 : Nat × Blk := g19202_4 (iN 42) z0
noncomputable abbrev q352 : Nat × Blk := g13824_3 (.so 19207 0 1 1) bT (iN 127) z0 tx1 z0 z0
noncomputable abbrev q353 : Nat × Blk := g19202_4 (iN 41) z1
noncomputable abbrev q354 : Nat × Blk := g19205_5 (iN 42)
noncomputable abbrev q355 : Nat × Blk := g24036_6 (iN 10) z0 z0 (oN 22) (iN 9)
noncomputable abbrev q356 : Nat × Blk := g13824_3 (.so 19207 0 1 1) bT (iN 126) z0 tx1 z0 z0
noncomputable abbrev q357 : Nat × Blk := g19202_4 (iN 38) z0
noncomputable abbrev q358 : Nat × Blk := g19205_5 (iN 41)
noncomputable abbrev q359 : Nat × Blk := g13820_2 (.so 19748 0 3 1) (.so 19749 0 3 1)
noncomputable abbrev q360 : Nat × Blk := g13824_3 (.so 19207 0 1 1) bT (iN 120) z0 tx1 z0 z0
noncomputable abbrev q361 : Nat × Blk := g19202_4 (iN 12) z0
noncomputable abbrev q362 : Nat × Blk := g19205_5 (iN 27)
noncomputable abbrev q363 : Nat × Blk := g19748_8 (iN 10) (iN 10) (iN 10) (iN 81) (iN 9)
noncomputable abbrev q364 : Nat × Blk := g19749_9 bF bF
noncomputable abbrev q365 : Nat × Blk := g13824_3 (.so 19207 0 1 1) bT (iN 119) z0 tx1 z0 z0
noncomputable abbrev q366 : Nat × Blk := g19202_4 (iN 10) z2
noncomputable abbrev q367 : Nat × Blk := g19205_5 (iN 12)
noncomputable abbrev q368 : Nat × Blk := g13824_3 (.so 19207 0 1 1) bT (iN 118) z0 tx1 z0 z0
noncomputable abbrev q369 : Nat × Blk := g19202_4 (iN 9) z1
noncomputable abbrev q370 : Nat × Blk := g19205_5 (iN 10)
noncomputable abbrev q371 : Nat × Blk := g19748_8 (iN 10) (iN 10) (iN 9) (iN 81) (iN 9)
noncomputable abbrev q372 : Nat × Blk := g13824_3 (.so 19207 0 1 1) bT (iN 117) z0 tx1 z0 z0
noncomputable abbrev q373 : Nat × Blk := g19202_4 (iN 24) z0
noncomputable abbrev q374 : Nat × Blk := g19205_5 (iN 9)
noncomputable abbrev q375 : Nat × Blk := g19748_8 (iN 10) (iN 9) (iN 9) (iN 81) (iN 9)
noncomputable abbrev q376 : Nat × Blk := g13824_3 (.so 19207 0 1 1) bT (iN 116) z0 tx1 z0 z0
noncomputable abbrev q377 : Nat × Blk := g19202_4 (iN 21) z0
noncomputable abbrev q378 : Nat × Blk := g19205_5 (iN 24)
noncomputable abbrev q379 : Nat × Blk := g13824_3 (.so 19207 0 1 1) bT (iN 115) z0 tx1 z0 z0
noncomputable abbrev q380 : Nat × Blk := g19202_4 (iN 20) z0
noncomputable abbrev q381 : Nat × Blk := g19205_5 (iN 21)
noncomputable abbrev q382 : Nat × Blk := g19748_8 (iN 9) (iN 9) (iN 9) (iN 81) (iN 9)
noncomputable abbrev q383 : Nat × Blk := g13824_3 (.so 19207 0 1 1) bT (iN 114) z0 tx1 z0 z0
noncomputable abbrev q384 : Nat × Blk := g19202_4 (iN 19) (iN 3)
noncomputable abbrev q385 : Nat × Blk := g19205_5 (iN 20)
noncomputable abbrev q386 : Nat × Blk := g19440_0 (.int .u64 4294967296) (.int .u64 38654705668) (.int .u64 107374182416) (.int .u64 210453397540) (.int .u64 64)
noncomputable abbrev q387 : Nat × Blk := g13824_3 (.so 19207 0 1 1) bT (iN 113) z0 tx1 z0 z0
noncomputable abbrev q388 : Nat × Blk := g19202_4 (iN 18) (iN 4)
noncomputable abbrev q389 : Nat × Blk := g19205_5 (iN 19)
noncomputable abbrev q390 : Nat × Blk := g19748_8 (iN 9) (iN 9) (iN 9) (iN 9) (iN 9)
noncomputable abbrev q391 : Nat × Blk := g13824_3 (.so 19207 0 1 1) bT (iN 112) z0 tx1 z0 z0
noncomputable abbrev q392 : Nat × Blk := g19202_4 (iN 17) (iN 3)
noncomputable abbrev q393 : Nat × Blk := g19205_5 (iN 18)
noncomputable abbrev q394 : Nat × Blk := g19748_8 (iN 9) (iN 9) (iN 9) (iN 9) (iN 8)
noncomputable abbrev q395 : Nat × Blk := g13824_3 (.so 19207 0 1 1) bT (iN 111) z0 tx1 z0 z0
noncomputable abbrev q396 : Nat × Blk := g19202_4 (iN 16) z2
noncomputable abbrev q397 : Nat × Blk := g19205_5 (iN 17)
noncomputable abbrev q398 : Nat × Blk := g19748_8 (iN 9) (iN 9) (iN 9) (iN 64) (iN 8)
noncomputable abbrev q399 : Nat × Blk := g13824_3 (.so 19207 0 1 1) bT (iN 110) z0 tx1 z0 z0
noncomputable abbrev q400 : Nat × Blk := g19202_4 (iN 15) z1
noncomputable abbrev q401 : Nat × Blk := g19205_5 (iN 16)
noncomputable abbrev q402 : Nat × Blk := g19748_8 (iN 9) (iN 9) (iN 10) (iN 64) (iN 8)
noncomputable abbrev q403 : Nat × Blk := g13824_3 (.so 19207 0 1 1) bT (iN 109) z0 tx1 z0 z0
noncomputable abbrev q404 : Nat × Blk := g19205_5 (iN 15)
noncomputable abbrev q405 : Nat × Blk := g13824_3 (.so 19207 0 1 1) bT (iN 108) z0 tx1 z0 z0
noncomputable abbrev q406 : Nat × Blk := g13824_3 (.so 19207 0 1 1) bT (iN 107) z0 tx1 z0 z0
noncomputable abbrev q407 : Nat × Blk := g19748_8 (iN 9) (iN 9) (iN 8) (iN 64) (iN 8)
noncomputable abbrev q408 : Nat × Blk := g13824_3 (.so 19207 0 1 1) bT (iN 106) z0 tx1 z0 z0
noncomputable abbrev q409 : Nat × Blk := g13824_3 (.so 19207 0 1 1) bT (iN 105) z0 tx1 z0 z0
noncomputable abbrev q410 : Nat × Blk := g13824_3 (.so 19207 0 1 1) bT (iN 104) z0 tx1 z0 z0
noncomputable abbrev q411 : Nat × Blk := g19748_8 (iN 8) (iN 9) (iN 8) (iN 64) (iN 8)
noncomputable abbrev q412 : Nat × Blk := g13824_3 (.so 19207 0 1 1) bT (iN 103) z0 tx1 z0 z0
noncomputable abbrev q413 : Nat × Blk := g19440_0 (.int .u64 4294967296) (.int .u64 38654705668) (.int .u64 107374182416) (.int .u64 210453397540) (.int .u64 0)
noncomputable abbrev q414 : Nat × Blk := g13824_3 (.so 19207 0 1 1) bT (iN 102) z0 tx1 z0 z0
noncomputable abbrev q415 : Nat × Blk := g19748_8 (iN 8) (iN 9) (iN 8) (iN 8) (iN 8)
noncomputable abbrev q416 : Nat × Blk := g13824_3 (.so 19207 0 1 1) bT (iN 101) z0 tx1 z0 z0
noncomputable abbrev q417 : Nat × Blk := g19748_8 (iN 8) (iN 9) (iN 8) (iN 8) (iN 7)
noncomputable abbrev q418 : Nat × Blk := g13824_3 (.so 19207 0 1 1) bT (iN 100) z0 tx1 z0 z0
noncomputable abbrev q419 : Nat × Blk := g19748_8 (iN 8) (iN 9) (iN 8) (iN 49) (iN 7)
noncomputable abbrev q420 : Nat × Blk := g13824_3 (.so 19207 0 1 1) bT (iN 99) z0 tx1 z0 z0
noncomputable abbrev q421 : Nat × Blk := g19748_8 (iN 8) (iN 9) (iN 10) (iN 49) (iN 7)
noncomputable abbrev q422 : Nat × Blk := g13824_3 (.so 19207 0 1 1) bT (iN 98) z0 tx1 z0 z0
noncomputable abbrev q423 : Nat × Blk := g19748_8 (iN 8) (iN 8) (iN 10) (iN 49) (iN 7)
noncomputable abbrev q424 : Nat × Blk := g13824_3 (.so 19207 0 1 1) bT (iN 97) z0 tx1 z0 z0
noncomputable abbrev q425 : Nat × Blk := g13824_3 (.so 19207 0 1 1) bT (iN 96) z0 tx1 z0 z0
noncomputable abbrev q426 : Nat × Blk := g19748_8 (iN 8) (iN 8) (iN 7) (iN 49) (iN 7)
noncomputable abbrev q427 : Nat × Blk := g13824_3 (.so 19207 0 1 1) bT (iN 95) z0 tx1 z0 z0
noncomputable abbrev q428 : Nat × Blk := g19748_8 (iN 8) (iN 9) (iN 7) (iN 49) (iN 7)
noncomputable abbrev q429 : Nat × Blk := g13824_3 (.so 19207 0 1 1) bT (iN 94) z0 tx1 z0 z0
noncomputable abbrev q430 : Nat × Blk := g13824_3 (.so 19207 0 1 1) bT (iN 93) z0 tx1 z0 z0
noncomputable abbrev q431 : Nat × Blk := g19748_8 (iN 7) (iN 9) (iN 7) (iN 49) (iN 7)
noncomputable abbrev q432 : Nat × Blk := g13824_3 (.so 19207 0 1 1) bT (iN 92) z0 tx1 z0 z0
noncomputable abbrev q433 : Nat × Blk := g19440_0 (.int .u64 4294967296) (.int .u64 38654705668) (.int .u64 107374182416) (.int .u64 36) (.int .u64 0)
noncomputable abbrev q434 : Nat × Blk := g13824_3 (.so 19207 0 1 1) bT (iN 91) z0 tx1 z0 z0
noncomputable abbrev q435 : Nat × Blk := g19748_8 (iN 7) (iN 9) (iN 7) (iN 7) (iN 7)
noncomputable abbrev q436 : Nat × Blk := g13824_3 (.so 19207 0 1 1) bT (iN 90) z0 tx1 z0 z0
noncomputable abbrev q437 : Nat × Blk := g19748_8 (iN 7) (iN 9) (iN 7) (iN 7) (iN 6)
noncomputable abbrev q438 : Nat × Blk := g13824_3 (.so 19207 0 1 1) bT (iN 89) z0 tx1 z0 z0
noncomputable abbrev q439 : Nat × Blk := g19748_8 (iN 7) (iN 9) (iN 7) (iN 36) (iN 6)
noncomputable abbrev q440 : Nat × Blk := g13824_3 (.so 19207 0 1 1) bT (iN 88) z0 tx1 z0 z0
noncomputable abbrev q441 : Nat × Blk := g19748_8 (iN 7) (iN 9) (iN 10) (iN 36) (iN 6)
noncomputable abbrev q442 : Nat × Blk := g13824_3 (.so 19207 0 1 1) bT (iN 87) z0 tx1 z0 z0
noncomputable abbrev q443 : Nat × Blk := g19748_8 (iN 7) (iN 7) (iN 10) (iN 36) (iN 6)
noncomputable abbrev q444 : Nat × Blk := g13824_3 (.so 19207 0 1 1) bT (iN 86) z0 tx1 z0 z0
noncomputable abbrev q445 : Nat × Blk := g13824_3 (.so 19207 0 1 1) bT (iN 85) z0 tx1 z0 z0
noncomputable abbrev q446 : Nat × Blk := g19748_8 (iN 7) (iN 7) (iN 6) (iN 36) (iN 6)
noncomputable abbrev q447 : Nat × Blk := g13824_3 (.so 19207 0 1 1) bT (iN 84) z0 tx1 z0 z0
noncomputable abbrev q448 : Nat × Blk := g19748_8 (iN 7) (iN 9) (iN 6) (iN 36) (iN 6)
noncomputable abbrev q449 : Nat × Blk := g13824_3 (.so 19207 0 1 1) bT (iN 83) z0 tx1 z0 z0
noncomputable abbrev q450 : Nat × Blk := g13824_3 (.so 19207 0 1 1) bT (iN 82) z0 tx1 z0 z0
noncomputable abbrev q451 : Nat × Blk := g19748_8 (iN 6) (iN 9) (iN 6) (iN 36) (iN 6)
noncomputable abbrev q452 : Nat × Blk := g13824_3 (.so 19207 0 1 1) bT (iN 81) z0 tx1 z0 z0
noncomputable abbrev q453 : Nat × Blk := g19440_0 (.int .u64 4294967296) (.int .u64 38654705668) (.int .u64 107374182416) (.int .u64 0) (.int .u64 0)
noncomputable abbrev q454 : Nat × Blk := g13824_3 (.so 19207 0 1 1) bT (iN 80) z0 tx1 z0 z0
noncomputable abbrev q455 : Nat × Blk := g19748_8 (iN 6) (iN 9) (iN 6) (iN 6) (iN 6)
noncomputable abbrev q456 : Nat × Blk := g13824_3 (.so 19207 0 1 1) bT (iN 79) z0 tx1 z0 z0
noncomputable abbrev q457 : Nat × Blk := g19748_8 (iN 6) (iN 9) (iN 6) (iN 6) (iN 5)
noncomputable abbrev q458 : Nat × Blk := g13824_3 (.so 19207 0 1 1) bT (iN 78) z0 tx1 z0 z0
noncomputable abbrev q459 : Nat × Blk := g19748_8 (iN 6) (iN 9) (iN 6) (iN 25) (iN 5)
noncomputable abbrev q460 : Nat × Blk := g13824_3 (.so 19207 0 1 1) bT (iN 77) z0 tx1 z0 z0
noncomputable abbrev q461 : Nat × Blk := g19748_8 (iN 6) (iN 9) (iN 10) (iN 25) (iN 5)
noncomputable abbrev q462 : Nat × Blk := g13824_3 (.so 19207 0 1 1) bT (iN 76) z0 tx1 z0 z0
noncomputable abbrev q463 : Nat × Blk := g19748_8 (iN 6) (iN 6) (iN 10) (iN 25) (iN 5)
noncomputable abbrev q464 : Nat × Blk := g13824_3 (.so 19207 0 1 1) bT (iN 75) z0 tx1 z0 z0
noncomputable abbrev q465 : Nat × Blk := g13824_3 (.so 19207 0 1 1) bT (iN 74) z0 tx1 z0 z0
noncomputable abbrev q466 : Nat × Blk := g19748_8 (iN 6) (iN 6) (iN 5) (iN 25) (iN 5)
noncomputable abbrev q467 : Nat × Blk := g13824_3 (.so 19207 0 1 1) bT (iN 73) z0 tx1 z0 z0
noncomputable abbrev q468 : Nat × Blk := g19748_8 (iN 6) (iN 9) (iN 5) (iN 25) (iN 5)
noncomputable abbrev q469 : Nat × Blk := g13824_3 (.so 19207 0 1 1) bT (iN 72) z0 tx1 z0 z0
noncomputable abbrev q470 : Nat × Blk := g13824_3 (.so 19207 0 1 1) bT (iN 71) z0 tx1 z0 z0
noncomputable abbrev q471 : Nat × Blk := g19748_8 (iN 5) (iN 9) (iN 5) (iN 25) (iN 5)
noncomputable abbrev q472 : Nat × Blk := g13824_3 (.so 19207 0 1 1) bT (iN 70) z0 tx1 z0 z0
noncomputable abbrev q473 : Nat × Blk := g19440_0 (.int .u64 4294967296) (.int .u64 38654705668) (.int .u64 16) (.int .u64 0) (.int .u64 0)
noncomputable abbrev q474 : Nat × Blk := g13824_3 (.so 19207 0 1 1) bT (iN 69) z0 tx1 z0 z0
noncomputable abbrev q475 : Nat × Blk := g19748_8 (iN 5) (iN 9) (iN 5) (iN 5) (iN 5)
noncomputable abbrev q476 : Nat × Blk := g13824_3 (.so 19207 0 1 1) bT (iN 68) z0 tx1 z0 z0
noncomputable abbrev q477 : Nat × Blk := g19748_8 (iN 5) (iN 9) (iN 5) (iN 5) (iN 4)
noncomputable abbrev q478 : Nat × Blk := g13824_3 (.so 19207 0 1 1) bT (iN 67) z0 tx1 z0 z0
noncomputable abbrev q479 : Nat × Blk := g19748_8 (iN 5) (iN 9) (iN 5) (iN 16) (iN 4)
noncomputable abbrev q480 : Nat × Blk := g13824_3 (.so 19207 0 1 1) bT (iN 66) z0 tx1 z0 z0
noncomputable abbrev q481 : Nat × Blk := g19748_8 (iN 5) (iN 9) (iN 10) (iN 16) (iN 4)
noncomputable abbrev q482 : Nat × Blk := g13824_3 (.so 19207 0 1 1) bT (iN 65) z0 tx1 z0 z0
noncomputable abbrev q483 : Nat × Blk := g19748_8 (iN 5) (iN 5) (iN 10) (iN 16) (iN 4)
noncomputable abbrev q484 : Nat × Blk := g13824_3 (.so 19207 0 1 1) bT (iN 64) z0 tx1 z0 z0
noncomputable abbrev q485 : Nat × Blk := g13824_3 (.so 19207 0 1 1) bT (iN 63) z0 tx1 z0 z0
noncomputable abbrev q486 : Nat × Blk := g19748_8 (iN 5) (iN 5) (iN 4) (iN 16) (iN 4)
noncomputable abbrev q487 : Nat × Blk := g13824_3 (.so 19207 0 1 1) bT (iN 62) z0 tx1 z0 z0
noncomputable abbrev q488 : Nat × Blk := g19748_8 (iN 5) (iN 9) (iN 4) (iN 16) (iN 4)
noncomputable abbrev q489 : Nat × Blk := g13824_3 (.so 19207 0 1 1) bT (iN 61) z0 tx1 z0 z0
noncomputable abbrev q490 : Nat × Blk := g13824_3 (.so 19207 0 1 1) bT (iN 60) z0 tx1 z0 z0
noncomputable abbrev q491 : Nat × Blk := g19748_8 (iN 4) (iN 9) (iN 4) (iN 16) (iN 4)
noncomputable abbrev q492 : Nat × Blk := g13824_3 (.so 19207 0 1 1) bT (iN 59) z0 tx1 z0 z0
noncomputable abbrev q493 : Nat × Blk := g19440_0 (.int .u64 4294967296) (.int .u64 38654705668) (.int .u64 0) (.int .u64 0) (.int .u64 0)
noncomputable abbrev q494 : Nat × Blk := g13824_3 (.so 19207 0 1 1) bT (iN 58) z0 tx1 z0 z0
noncomputable abbrev q495 : Nat × Blk := g19748_8 (iN 4) (iN 9) (iN 4) (iN 4) (iN 4)
noncomputable abbrev q496 : Nat × Blk := g13824_3 (.so 19207 0 1 1) bT (iN 57) z0 tx1 z0 z0
noncomputable abbrev q497 : Nat × Blk := g19748_8 (iN 4) (iN 9) (iN 4) (iN 4) (iN 3)
noncomputable abbrev q498 : Nat × Blk := g13824_3 (.so 19207 0 1 1) bT (iN 56) z0 tx1 z0 z0
noncomputable abbrev q499 : Nat × Blk := g19748_8 (iN 4) (iN 9) (iN 4) (iN 9) (iN 3)
noncomputable abbrev q500 : Nat × Blk := g13824_3 (.so 19207 0 1 1) bT (iN 55) z0 tx1 z0 z0
noncomputable abbrev q501 : Nat × Blk := g19748_8 (iN 4) (iN 9) (iN 10) (iN 9) (iN 3)
noncomputable abbrev q502 : Nat × Blk := g13824_3 (.so 19207 0 1 1) bT (iN 54) z0 tx1 z0 z0
noncomputable abbrev q503 : Nat × Blk := g19748_8 (iN 4) (iN 4) (iN 10) (iN 9) (iN 3)
noncomputable abbrev q504 : Nat × Blk := g13824_3 (.so 19207 0 1 1) bT (iN 53) z0 tx1 z0 z0
noncomputable abbrev q505 : Nat × Blk := g13824_3 (.so 19207 0 1 1) bT (iN 52) z0 tx1 z0 z0
noncomputable abbrev q506 : Nat × Blk := g19748_8 (iN 4) (iN 4) (iN 3) (iN 9) (iN 3)
noncomputable abbrev q507 : Nat × Blk := g13824_3 (.so 19207 0 1 1) bT (iN 51) z0 tx1 z0 z0
noncomputable abbrev q508 : Nat × Blk := g19748_8 (iN 4) (iN 9) (iN 3) (iN 9) (iN 3)
noncomputable abbrev q509 : Nat × Blk := g13824_3 (.so 19207 0 1 1) bT (iN 50) z0 tx1 z0 z0
noncomputable abbrev q510 : Nat × Blk := g13824_3 (.so 19207 0 1 1) bT (iN 49) z0 tx1 z0 z0
noncomputable abbrev q511 : Nat × Blk := g19748_8 (iN 3) (iN 9) (iN 3) (iN 9) (iN 3)
noncomputable abbrev q512 : Nat × Blk := g13824_3 (.so 19207 0 1 1) bT (iN 48) z0 tx1 z0 z0
noncomputable abbrev q513 : Nat × Blk := g19440_0 (.int .u64 4294967296) (.int .u64 4) (.int .u64 0) (.int .u64 0) (.int .u64 0)
noncomputable abbrev q514 : Nat × Blk := g13824_3 (.so 19207 0 1 1) bT (iN 47) z0 tx1 z0 z0
noncomputable abbrev q515 : Nat × Blk := g19748_8 (iN 3) (iN 9) (iN 3) (iN 3) (iN 3)
noncomputable abbrev q516 : Nat × Blk := g13824_3 (.so 19207 0 1 1) bT (iN 46) z0 tx1 z0 z0
noncomputable abbrev q517 : Nat × Blk := g19748_8 (iN 3) (iN 9) (iN 3) (iN 3) z2
noncomputable abbrev q518 : Nat × Blk := g13824_3 (.so 19207 0 1 1) bT (iN 45) z0 tx1 z0 z0
noncomputable abbrev q519 : Nat × Blk := g19748_8 (iN 3) (iN 9) (iN 3) (iN 4) z2
noncomputable abbrev q520 : Nat × Blk := g13824_3 (.so 19207 0 1 1) bT (iN 44) z0 tx1 z0 z0
noncomputable abbrev q521 : Nat × Blk := g19748_8 (iN 3) (iN 9) (iN 10) (iN 4) z2
noncomputable abbrev q522 : Nat × Blk := g13824_3 (.so 19207 0 1 1) bT (iN 43) z0 tx1 z0 z0
noncomputable abbrev q523 : Nat × Blk := g19748_8 (iN 3) (iN 3) (iN 10) (iN 4) z2
noncomputable abbrev q524 : Nat × Blk := g13824_3 (.so 19207 0 1 1) bT (iN 42) z0 tx1 z0 z0
noncomputable abbrev q525 : Nat × Blk := g13824_3 (.so 19207 0 1 1) bT (iN 41) z0 tx1 z0 z0
noncomputable abbrev q526 : Nat × Blk := g19748_8 (iN 3) (iN 3) z2 (iN 4) z2
noncomputable abbrev q527 : Nat × Blk := g13824_3 (.so 19207 0 1 1) bT (iN 40) z0 tx1 z0 z0
noncomputable abbrev q528 : Nat × Blk := g19748_8 (iN 3) (iN 9) z2 (iN 4) z2
noncomputable abbrev q529 : Nat × Blk := g13824_3 (.so 19207 0 1 1) bT (iN 39) z0 tx1 z0 z0
noncomputable abbrev q530 : Nat × Blk := g13824_3 (.so 19207 0 1 1) bT (iN 38) z0 tx1 z0 z0
noncomputable abbrev q531 : Nat × Blk := g19748_8 z2 (iN 9) z2 (iN 4) z2
noncomputable abbrev q532 : Nat × Blk := g13824_3 (.so 19207 0 1 1) bT (iN 37) z0 tx1 z0 z0
noncomputable abbrev q533 : Nat × Blk := g19440_0 (.int .u64 4294967296) (.int .u64 0) (.int .u64 0) (.int .u64 0) (.int .u64 0)
noncomputable abbrev q534 : Nat × Blk := g13824_3 (.so 19207 0 1 1) bT (iN 36) z0 tx1 z0 z0
noncomputable abbrev q535 : Nat × Blk := g19748_8 z2 (iN 9) z2 z2 z2
noncomputable abbrev q536 : Nat × Blk := g13824_3 (.so 19207 0 1 1) bT (iN 35) z0 tx1 z0 z0
noncomputable abbrev q537 : Nat × Blk := g19748_8 z2 (iN 9) z2 z2 z1
noncomputable abbrev q538 : Nat × Blk := g13824_3 (.so 19207 0 1 1) bT (iN 34) z0 tx1 z0 z0
noncomputable abbrev q539 : Nat × Blk := g19748_8 z2 (iN 9) z2 z1 z1
noncomputable abbrev q540 : Nat × Blk := g13824_3 (.so 19207 0 1 1) bT (iN 33) z0 tx1 z0 z0
noncomputable abbrev q541 : Nat × Blk := g19748_8 z2 (iN 9) (iN 10) z1 z1
noncomputable abbrev q542 : Nat × Blk := g13824_3 (.so 19207 0 1 1) bT (iN 32) z0 tx1 z0 z0
noncomputable abbrev q543 : Nat × Blk := g19748_8 z2 z2 (iN 10) z1 z1
noncomputable abbrev q544 : Nat × Blk := g13824_3 (.so 19207 0 1 1) bT (iN 31) z0 tx1 z0 z0
noncomputable abbrev q545 : Nat × Blk := g13824_3 (.so 19207 0 1 1) bT (iN 30) z0 tx1 z0 z0
noncomputable abbrev q546 : Nat × Blk := g19748_8 z2 z2 z1 z1 z1
noncomputable abbrev q547 : Nat × Blk := g13824_3 (.so 19207 0 1 1) bT (iN 29) z0 tx1 z0 z0
noncomputable abbrev q548 : Nat × Blk := g19748_8 z2 (iN 9) z1 z1 z1
noncomputable abbrev q549 : Nat × Blk := g13824_3 (.so 19207 0 1 1) bT (iN 28) z0 tx1 z0 z0
noncomputable abbrev q550 : Nat × Blk := g13824_3 (.so 19207 0 1 1) bT (iN 27) z0 tx1 z0 z0
noncomputable abbrev q551 : Nat × Blk := g19748_8 z1 (iN 9) z1 z1 z1
noncomputable abbrev q552 : Nat × Blk := g13824_3 (.so 19207 0 1 1) bT (iN 26) z0 tx1 z0 z0
noncomputable abbrev q553 : Nat × Blk := g19440_0 (.int .u64 0) (.int .u64 0) (.int .u64 0) (.int .u64 0) (.int .u64 0)
noncomputable abbrev q554 : Nat × Blk := g13824_3 (.so 19207 0 1 1) bT (iN 25) z0 tx1 z0 z0
noncomputable abbrev q555 : Nat × Blk := g13824_3 (.so 19207 0 1 1) bT (iN 24) z0 tx1 z0 z0
noncomputable abbrev q556 : Nat × Blk := g19748_8 z1 (iN 9) z1 z1 z0
noncomputable abbrev q557 : Nat × Blk := g13824_3 (.so 19207 0 1 1) bT (iN 23) z0 tx1 z0 z0
noncomputable abbrev q558 : Nat × Blk := g19748_8 z1 (iN 9) z1 z0 z0
noncomputable abbrev q559 : Nat × Blk := g13824_3 (.so 19207 0 1 1) bT (iN 22) z0 tx1 z0 z0
noncomputable abbrev q560 : Nat × Blk := g19748_8 z1 (iN 9) (iN 10) z0 z0
noncomputable abbrev q561 : Nat × Blk := g13824_3 (.so 19207 0 1 1) bT (iN 21) z0 tx1 z0 z0
noncomputable abbrev q562 : Nat × Blk := g19748_8 z1 z1 (iN 10) z0 z0
noncomputable abbrev q563 : Nat × Blk := g13824_3 (.so 19207 0 1 1) bT (iN 20) z0 tx1 z0 z0
noncomputable abbrev q564 : Nat × Blk := g13824_3 (.so 19207 0 1 1) bT (iN 19) z0 tx1 z0 z0
noncomputable abbrev q565 : Nat × Blk := g19748_8 z1 z1 z0 z0 z0
noncomputable abbrev q566 : Nat × Blk := g13824_3 (.so 19207 0 1 1) bT (iN 18) z0 tx1 z0 z0
noncomputable abbrev q567 : Nat × Blk := g19748_8 z1 (iN 9) z0 z0 z0
noncomputable abbrev q568 : Nat × Blk := g13824_3 (.so 19207 0 1 1) bT (iN 17) z0 tx1 z0 z0
noncomputable abbrev q569 : Nat × Blk := g13824_3 (.so 19207 0 1 1) bT (iN 16) z0 tx1 z0 z0
noncomputable abbrev q570 : Nat × Blk := g19748_8 z0 (iN 9) z0 z0 z0
noncomputable abbrev q571 : Nat × Blk := g13824_3 (.so 19207 0 1 1) bT (iN 15) z0 tx1 z0 z0
noncomputable abbrev q572 : Nat × Blk := g13824_3 (.so 19207 0 1 1) bT (iN 14) z0 tx1 z0 z0
noncomputable abbrev q573 : Nat × Blk := g13820_2 (.so 19719 0 6 1) (.so 19720 0 6 1)
noncomputable abbrev q574 : Nat × Blk := g13824_3 (.so 19207 0 1 1) bT (iN 13) z0 tx1 z0 z0
noncomputable abbrev q575 : Nat × Blk := (19719, (.cells 6 true [] (T.ofList 0 .leaf [z0, z0, (iN 9), (iN 9), z0, z0])))
noncomputable abbrev q576 : Nat × Blk := (19720, (.cells 6 true [] (T.ofList 0 .leaf [bF, bF, bT, bT, bF, bF])))
noncomputable abbrev q577 : Nat × Blk := g13820_2 (.so 19565 0 5 1) (.so 19566 0 5 1)
noncomputable abbrev q578 : Nat × Blk := g13824_3 (.so 19207 0 1 1) bT (iN 12) z0 tx1 z0 z0
noncomputable abbrev g19565_10 (x0 x1 : AV) : Nat × Blk := (19565, (.cells 5 true [] (T.ofList 0 .leaf [z0, z0, (iN 9), x0, x1])))
noncomputable abbrev q579 : Nat × Blk := g19565_10 (iN 9) z0
noncomputable abbrev q580 : Nat × Blk := (19566, (.cells 5 true [] (T.ofList 0 .leaf [bF, bF, bT, bT, bF])))
noncomputable abbrev q581 : Nat × Blk := g13820_2 (.so 19565 0 4 1) (.so 19566 0 4 1)
noncomputable abbrev q582 : Nat × Blk := g13824_3 (.so 19207 0 1 1) bT (iN 11) z0 tx1 z0 z0
noncomputable abbrev q583 : Nat × Blk := g19565_10 (iN 9) (iN 10)
noncomputable abbrev q584 : Nat × Blk := g13820_2 (.so 19565 0 3 1) (.so 19566 0 3 1)
noncomputable abbrev q585 : Nat × Blk := g13824_3 (.so 19207 0 1 1) bT (iN 10) z0 tx1 z0 z0
noncomputable abbrev q586 : Nat × Blk := g19565_10 z0 (iN 10)
noncomputable abbrev q587 : Nat × Blk := (19566, (.cells 5 true [] (T.ofList 0 .leaf [bF, bF, bT, bF, bF])))
noncomputable abbrev q588 : Nat × Blk := g13824_3 (.so 19207 0 1 1) bT (iN 9) z0 tx1 z0 z0
noncomputable abbrev q589 : Nat × Blk := g13820_2 (.so 19234 0 4 1) (.so 19235 0 4 1)
noncomputable abbrev q590 : Nat × Blk := g13824_3 (.so 19207 0 1 1) bT (iN 8) z0 tx1 z0 z0
noncomputable abbrev g19234_11 (x0 x1 : AV) : Nat × Blk := (19234, (.cells 4 true [] (T.ofList 0 .leaf [z0, z0, x0, x1])))
noncomputable abbrev q591 : Nat × Blk := g19234_11 (iN 9) z0
noncomputable abbrev g19235_12 (x0 x1 : AV) : Nat × Blk := (19235, (.cells 4 true [] (T.ofList 0 .leaf [bF, bF, x0, x1])))
noncomputable abbrev q592 : Nat × Blk := g19235_12 bT bF
noncomputable abbrev q593 : Nat × Blk := g13820_2 (.so 19234 0 3 1) (.so 19235 0 3 1)
noncomputable abbrev q594 : Nat × Blk := g13824_3 (.so 19207 0 1 1) bT (iN 7) z0 tx1 z0 z0
noncomputable abbrev q595 : Nat × Blk := g19202_4 (iN 8) z0
noncomputable abbrev q596 : Nat × Blk := g19234_11 (iN 9) (iN 9)
noncomputable abbrev q597 : Nat × Blk := g19235_12 bT bT
noncomputable abbrev q598 : Nat × Blk := g13824_3 (.so 19207 0 1 1) bT (iN 6) z0 tx1 z0 z0
noncomputable abbrev q599 : Nat × Blk := g19202_4 (iN 6) z1
noncomputable abbrev q600 : Nat × Blk := g19205_5 (iN 8)
noncomputable abbrev q601 : Nat × Blk := g19234_11 z0 (iN 9)
noncomputable abbrev q602 : Nat × Blk := g19235_12 bF bT
noncomputable abbrev q603 : Nat × Blk := (10473, (.map [(tx2, z0, 0), (tx14, z1, 1), (tx16, z2, 2)] 3))
noncomputable abbrev q604 : Nat × Blk := (10474, (.cells 5 false [] (T.ofList 0 .leaf [(pN 7221), (.so 14042 0 8 1), (.so 14044 0 3 1), (.so 14041 0 3 3), (.map 10473)])))
noncomputable abbrev q605 : Nat × Blk := g13824_3 (.so 19207 0 1 1) bT (iN 5) z0 tx1 z0 z0
noncomputable abbrev q606 : Nat × Blk := (14041, (.cells 9 true [] (T.ofList 0 .leaf [tx2, .nils, (uN 0), tx14, (.so 13943 0 1 1), (uN 0), tx16, (.so 14039 0 1 1), (uN 0)])))
noncomputable abbrev q607 : Nat × Blk := (14042, (.cells 8 true [] (T.ofList 0 .leaf [(.int .u64 0), (.int .u64 0), (.int .u64 1), (.int .u64 0), (.int .u64 0), (.int .u64 2), (.int .u64 0), (.int .u64 0)])))
noncomputable abbrev q608 : Nat × Blk := (14044, (.cells 3 true [] (T.ofList 0 .leaf [z0, z2, (iN 5)])))
noncomputable abbrev q609 : Nat × Blk := g19202_4 (iN 4) z1
noncomputable abbrev q610 : Nat × Blk := g19205_5 (iN 6)
noncomputable abbrev q611 : Nat × Blk := g19234_11 z0 (iN 10)
noncomputable abbrev q612 : Nat × Blk := g19235_12 bF bF
noncomputable abbrev q613 : Nat × Blk := g13824_3 (.so 19207 0 1 1) bT (iN 4) z0 tx1 z0 z0
noncomputable abbrev q614 : Nat × Blk := g19202_4 (iN 3) z0
noncomputable abbrev q615 : Nat × Blk := g19205_5 (iN 4)
noncomputable abbrev q616 : Nat × Blk := g19234_11 z0 z0
noncomputable abbrev q617 : Nat × Blk := g13824_3 (.so 19207 0 1 1) bT (iN 3) z0 tx1 z0 z0
noncomputable abbrev q618 : Nat × Blk := g19202_4 z2 z1
noncomputable abbrev q619 : Nat × Blk := g19205_5 (iN 3)
noncomputable abbrev q620 : Nat × Blk := g13824_3 (.so 19207 0 1 1) bT z2 z0 tx1 z0 z0
noncomputable abbrev q621 : Nat × Blk := g19202_4 z1 z0
noncomputable abbrev q622 : Nat × Blk := g19205_5 z2
noncomputable abbrev q623 : Nat × Blk := g13824_3 (.so 19207 0 1 1) bT z1 z0 tx1 z0 z0
noncomputable abbrev q624 : Nat × Blk := g19202_4 z0 z1
noncomputable abbrev q625 : Nat × Blk := g19205_5 z1
noncomputable abbrev q626 : Nat × Blk := (19117, (.cells 9 true [] (T.ofList 0 .leaf [z1, tx1, z0, z1, tx1, z0, (iN 7), tx19, z0])))
noncomputable abbrev q627 : Nat × Blk := (19118, (.cells 3 true [] (T.ofList 0 .leaf [z1, tx1, z0])))
noncomputable abbrev q628 : Nat × Blk := (16984, (.cells 9 true [] (T.ofList 0 .leaf [z1, tx1, z0, z1, tx1, z0, (iN 7), tx19, z0])))
noncomputable abbrev g16270_13 (x0 x1 x2 : AV) : Nat × Blk := (16270, (.cells 12 false [] (T.ofList 0 .leaf [(pN 7221), (pN 14128), (pN 16258), (uN 73), tx1, z0, (uN 0), x0, x1, x2, (.map 16269), bF])))
noncomputable abbrev q629 : Nat × Blk := g16270_13 (iN 58) (.so 18990 0 3 3) (.sl 18991 0 0 0)
noncomputable abbrev q630 : Nat × Blk := (18990, (.cells 9 true [] (T.ofList 0 .leaf [z1, tx1, z0, z1, tx1, z0, (iN 7), tx19, z0])))
noncomputable abbrev q631 : Nat × Blk := (18939, (.cells 9 true [] (T.ofList 0 .leaf [z1, tx1, z0, z1, tx1, z0, (iN 7), tx19, z0])))
noncomputable abbrev q632 : Nat × Blk := (18941, (.cells 3 true [] (T.ofList 0 .leaf [z1, tx1, z0])))
noncomputable abbrev q633 : Nat × Blk := (18882, (.cells 9 true [] (T.ofList 0 .leaf [z1, tx1, z0, z1, tx1, z0, (iN 7), tx19, z0])))
noncomputable abbrev q634 : Nat × Blk := (18885, (.cells 6 true [] (T.ofList 0 .leaf [z1, tx1, z0, z1, tx1, z0])))
noncomputable abbrev q635 : Nat × Blk := (18809, (.cells 9 true [] (T.ofList 0 .leaf [z1, tx1, z0, z1, tx1, z0, (iN 7), tx19, z0])))
noncomputable abbrev q636 : Nat × Blk := (18812, (.cells 9 true [] (T.ofList 0 .leaf [z1, tx1, z0, (iN 7), tx19, z0, z1, tx1, z0])))
noncomputable abbrev q637 : Nat × Blk := (18774, (.cells 9 true [] (T.ofList 0 .leaf [z1, tx1, z0, z1, tx1, z0, (iN 7), tx19, z0])))
noncomputable abbrev q638 : Nat × Blk := (18777, (.cells 6 true [] (T.ofList 0 .leaf [z1, tx1, z0, (iN 7), tx19, z0])))
noncomputable abbrev q639 : Nat × Blk := (18726, (.cells 9 true [] (T.ofList 0 .leaf [z1, tx1, z0, z1, tx1, z0, (iN 7), tx19, z0])))
noncomputable abbrev q640 : Nat × Blk := (18728, (.cells 3 true [] (T.ofList 0 .leaf [z1, tx1, z0])))
noncomputable abbrev q641 : Nat × Blk := (18671, (.cells 9 true [] (T.ofList 0 .leaf [z1, tx1, z0, z1, tx1, z0, (iN 7), tx19, z0])))
noncomputable abbrev q642 : Nat × Blk := (18674, (.cells 6 true [] (T.ofList 0 .leaf [z1, tx1, z0, z1, tx1, z0])))
noncomputable abbrev q643 : Nat × Blk := (18631, (.cells 9 true [] (T.ofList 0 .leaf [z1, tx1, z0, z1, tx1, z0, (iN 7), tx19, z0])))
noncomputable abbrev q644 : Nat × Blk := (18633, (.cells 3 true [] (T.ofList 0 .leaf [z1, tx1, z0])))
noncomputable abbrev q645 : Nat × Blk := (18568, (.cells 9 true [] (T.ofList 0 .leaf [z1, tx1, z0, z1, tx1, z0, (iN 7), tx19, z0])))
noncomputable abbrev q646 : Nat × Blk := (18570, (.cells 6 true [] (T.ofList 0 .leaf [z1, tx1, z0, z1, tx1, z0])))
noncomputable abbrev q647 : Nat × Blk := (18523, (.cells 9 true [] (T.ofList 0 .leaf [z1, tx1, z0, z1, tx1, z0, (iN 7), tx19, z0])))
noncomputable abbrev q648 : Nat × Blk := (18526, (.cells 6 true [] (T.ofList 0 .leaf [z1, tx1, z0, z1, tx1, z0])))
noncomputable abbrev q649 : Nat × Blk := (18484, (.cells 9 true [] (T.ofList 0 .leaf [z1, tx1, z0, z1, tx1, z0, (iN 7), tx19, z0])))
noncomputable abbrev q650 : Nat × Blk := (18485, (.cells 3 true [] (T.ofList 0 .leaf [z1, tx1, z0])))
noncomputable abbrev q651 : Nat × Blk := (16962, (.cells 9 true [] (T.ofList 0 .leaf [z1, tx1, z0, z1, tx1, z0, (iN 7), tx19, z0])))
noncomputable abbrev q652 : Nat × Blk := (18393, (.cells 9 true [] (T.ofList 0 .leaf [z1, tx1, z0, z1, tx1, z0, (iN 7), tx19, z0])))
noncomputable abbrev q653 : Nat × Blk := (18395, (.cells 3 true [] (T.ofList 0 .leaf [z1, tx1, z0])))
noncomputable abbrev q654 : Nat × Blk := (18339, (.cells 9 true [] (T.ofList 0 .leaf [z1, tx1, z0, z1, tx1, z0, (iN 7), tx19, z0])))
noncomputable abbrev q655 : Nat × Blk := (18341, (.cells 15 true [] (T.ofList 0 .leaf [(iN 7), tx19, z0, z1, tx1, z0, (iN 7), tx19, z0, z1, tx1, z0, z1, tx1, z0])))
noncomputable abbrev q656 : Nat × Blk := (18149, (.cells 9 true [] (T.ofList 0 .leaf [z1, tx1, z0, z1, tx1, z0, (iN 7), tx19, z0])))
noncomputable abbrev q657 : Nat × Blk := (18152, (.cells 15 true [] (T.ofList 0 .leaf [(iN 7), tx19, z0, z1, tx1, z0, (iN 7), tx19, z0, z1, tx1, z0, z1, tx1, z0])))
noncomputable abbrev q658 : Nat × Blk := (18106, (.cells 9 true [] (T.ofList 0 .leaf [z1, tx1, z0, z1, tx1, z0, (iN 7), tx19, z0])))
noncomputable abbrev q659 : Nat × Blk := (18109, (.cells 12 true [] (T.ofList 0 .leaf [(iN 7), tx19, z0, z1, tx1, z0, (iN 7), tx19, z0, z1, tx1, z0])))
noncomputable abbrev q660 : Nat × Blk := (18062, (.cells 9 true [] (T.ofList 0 .leaf [z1, tx1, z0, z1, tx1, z0, (iN 7), tx19, z0])))
noncomputable abbrev q661 : Nat × Blk := (18065, (.cells 9 true [] (T.ofList 0 .leaf [(iN 7), tx19, z0, z1, tx1, z0, (iN 7), tx19, z0])))
noncomputable abbrev q662 : Nat × Blk := (18020, (.cells 9 true [] (T.ofList 0 .leaf [z1, tx1, z0, z1, tx1, z0, (iN 7), tx19, z0])))
noncomputable abbrev q663 : Nat × Blk := (18023, (.cells 6 true [] (T.ofList 0 .leaf [(iN 7), tx19, z0, z1, tx1, z0])))
noncomputable abbrev q664 : Nat × Blk := (17980, (.cells 9 true [] (T.ofList 0 .leaf [z1, tx1, z0, z1, tx1, z0, (iN 7), tx19, z0])))
noncomputable abbrev q665 : Nat × Blk := (17981, (.cells 3 true [] (T.ofList 0 .leaf [(iN 7), tx19, z0])))
noncomputable abbrev q666 : Nat × Blk := (16940, (.cells 9 true [] (T.ofList 0 .leaf [z1, tx1, z0, z1, tx1, z0, (iN 7), tx19, z0])))
noncomputable abbrev q667 : Nat × Blk := g16270_13 (iN 21) (.so 17842 0 3 3) (.sl 17844 0 0 0)
noncomputable abbrev q668 : Nat × Blk := (17842, (.cells 9 true [] (T.ofList 0 .leaf [z1, tx1, z0, z1, tx1, z0, (iN 7), tx19, z0])))
noncomputable abbrev q669 : Nat × Blk := (17761, (.cells 9 true [] (T.ofList 0 .leaf [z1, tx1, z0, z1, tx1, z0, (iN 7), tx19, z0])))
noncomputable abbrev q670 : Nat × Blk := (17764, (.cells 9 true [] (T.ofList 0 .leaf [(iN 7), tx19, z0, z1, tx1, z0, z1, tx1, z0])))
noncomputable abbrev q671 : Nat × Blk := (17703, (.cells 9 true [] (T.ofList 0 .leaf [z1, tx1, z0, z1, tx1, z0, (iN 7), tx19, z0])))
noncomputable abbrev q672 : Nat × Blk := (17706, (.cells 12 true [] (T.ofList 0 .leaf [(iN 7), tx19, z0, z1, tx1, z0, z1, tx1, z0, z1, tx1, z0])))
noncomputable abbrev q673 : Nat × Blk := (17668, (.cells 9 true [] (T.ofList 0 .leaf [z1, tx1, z0, z1, tx1, z0, (iN 7), tx19, z0])))
noncomputable abbrev q674 : Nat × Blk := (17671, (.cells 9 true [] (T.ofList 0 .leaf [(iN 7), tx19, z0, z1, tx1, z0, z1, tx1, z0])))
noncomputable abbrev q675 : Nat × Blk := (17634, (.cells 9 true [] (T.ofList 0 .leaf [z1, tx1, z0, z1, tx1, z0, (iN 7), tx19, z0])))
noncomputable abbrev q676 : Nat × Blk := (17637, (.cells 6 true [] (T.ofList 0 .leaf [(iN 7), tx19, z0, z1, tx1, z0])))
noncomputable abbrev q677 : Nat × Blk := (17601, (.cells 9 true [] (T.ofList 0 .leaf [z1, tx1, z0, z1, tx1, z0, (iN 7), tx19, z0])))
noncomputable abbrev q678 : Nat × Blk := (17603, (.cells 3 true [] (T.ofList 0 .leaf [(iN 7), tx19, z0])))
noncomputable abbrev q679 : Nat × Blk := (17529, (.cells 9 true [] (T.ofList 0 .leaf [z1, tx1, z0, z1, tx1, z0, (iN 7), tx19, z0])))
noncomputable abbrev q680 : Nat × Blk := (17531, (.cells 6 true [] (T.ofList 0 .leaf [z1, tx1, z0, z1, tx1, z0])))
noncomputable abbrev q681 : Nat × Blk := (17484, (.cells 9 true [] (T.ofList 0 .leaf [z1, tx1, z0, z1, tx1, z0, (iN 7), tx19, z0])))
noncomputable abbrev q682 : Nat × Blk := (17487, (.cells 6 true [] (T.ofList 0 .leaf [z1, tx1, z0, z1, tx1, z0])))
noncomputable abbrev q683 : Nat × Blk := (17445, (.cells 9 true [] (T.ofList 0 .leaf [z1, tx1, z0, z1, tx1, z0, (iN 7), tx19, z0])))
noncomputable abbrev q684 : Nat × Blk := (17446, (.cells 3 true [] (T.ofList 0 .leaf [z1, tx1, z0])))
noncomputable abbrev q685 : Nat × Blk := (16918, (.cells 9 true [] (T.ofList 0 .leaf [z1, tx1, z0, z1, tx1, z0, (iN 7), tx19, z0])))
noncomputable abbrev q686 : Nat × Blk := (17334, (.cells 9 true [] (T.ofList 0 .leaf [z1, tx1, z0, z1, tx1, z0, z0, tx1, z0])))
noncomputable abbrev q687 : Nat × Blk := (17336, (.cells 3 true [] (T.ofList 0 .leaf [(iN 7), tx19, z0])))
noncomputable abbrev q688 : Nat × Blk := (17281, (.cells 9 true [] (T.ofList 0 .leaf [z1, tx1, z0, z1, tx1, z0, z0, tx1, z0])))
noncomputable abbrev q689 : Nat × Blk := (17283, (.cells 3 true [] (T.ofList 0 .leaf [z1, tx1, z0])))
noncomputable abbrev q690 : Nat × Blk := (17241, (.cells 9 true [] (T.ofList 0 .leaf [z1, tx1, z0, z1, tx1, z0, z0, tx1, z0])))
noncomputable abbrev q691 : Nat × Blk := (17197, (.cells 9 true [] (T.ofList 0 .leaf [z1, tx1, z0, z0, tx1, z0, z0, tx1, z0])))
noncomputable abbrev q692 : Nat × Blk := (17199, (.cells 3 true [] (T.ofList 0 .leaf [z1, tx1, z0])))
noncomputable abbrev q693 : Nat × Blk := (17157, (.cells 9 true [] (T.ofList 0 .leaf [z1, tx1, z0, z0, tx1, z0, z0, tx1, z0])))
noncomputable abbrev q694 : Nat × Blk := (17114, (.cells 9 true [] (T.ofList 0 .leaf [z0, tx1, z0, z0, tx1, z0, z0, tx1, z0])))
noncomputable abbrev q695 : Nat × Blk := (17115, (.cells 3 true [] (T.ofList 0 .leaf [z1, tx1, z0])))
noncomputable abbrev q696 : Nat × Blk := (16889, (.cells 9 true [] (T.ofList 0 .leaf [z0, tx1, z0, z0, tx1, z0, z0, tx1, z0])))
noncomputable abbrev q697 : Nat × Blk := g7221_1 .nils
noncomputable abbrev q698 : Nat × Blk := (7417, (.cells 8 false [] (T.ofList 0 .leaf [(iN 52), .nils, (iN 49), tx2, tx5, .nils, .nils, (.so 7470 0 13 9)])))
noncomputable abbrev q699 : Nat × Blk := (8294, (.cells 8 false [] (T.ofList 0 .leaf [(iN 52), .nils, (iN 33), tx18, tx10, .nils, .nils, (.so 8303 0 2 9)])))
noncomputable abbrev q700 : Nat × Blk := (9746, (.cells 8 false [] (T.ofList 0 .leaf [(iN 52), .nils, (iN 33), tx16, tx18, .nils, .nils, (.so 9755 0 2 9)])))
noncomputable abbrev q701 : Nat × Blk := (9945, (.cells 8 false [] (T.ofList 0 .leaf [(iN 52), .nils, (iN 33), tx14, tx18, .nils, .nils, (.so 9954 0 2 9)])))
noncomputable abbrev q702 : Nat × Blk := (6870, (.cells 9 false [] (T.ofList 0 .leaf [(pN 6868), (.so 7111 0 66 1), (.so 6897 0 5 1), (iN 3), (iN 3), (.so 6930 0 4 1), (.so 7099 0 4 2), .nils, (.so 6932 0 4 1)])))
noncomputable abbrev q703 : Nat × Blk := (6897, (.cells 5 true [] (T.ofList 0 .leaf [(uN 1), (uN 1), (uN 7), (uN 0), (uN 2)])))
noncomputable abbrev q704 : Nat × Blk := (6930, (.cells 4 true [] (T.ofList 0 .leaf [(iN 9), (iN 27), (iN 43), (iN 64)])))
noncomputable abbrev q705 : Nat × Blk := (6932, (.cells 4 true [] (T.ofList 0 .leaf [z0, z0, z0, z0])))
noncomputable abbrev q706 : Nat × Blk := (7099, (.cells 8 true [] (T.ofList 0 .leaf [z1, (iN 12), z0, (iN 24), (iN 3), (iN 46), z2, (iN 61)])))
noncomputable abbrev q707 : Nat × Blk := (3256, (.cells 5 false [] (T.ofList 0 .leaf [(pN 3), (.so 6824 0 8 1), (.so 6826 0 3 1), (.so 6823 0 3 3), (.map 3255)])))
noncomputable abbrev q708 : Nat × Blk := (6823, (.cells 9 true [] (T.ofList 0 .leaf [tx2, .nils, (uN 0), tx14, (.so 6725 0 1 1), (uN 0), tx16, (.so 6821 0 1 1), (uN 0)])))
noncomputable abbrev q709 : Nat × Blk := (6824, (.cells 8 true [] (T.ofList 0 .leaf [(.int .u64 0), (.int .u64 0), (.int .u64 1), (.int .u64 0), (.int .u64 0), (.int .u64 2), (.int .u64 0), (.int .u64 0)])))
noncomputable abbrev q710 : Nat × Blk := (6826, (.cells 3 true [] (T.ofList 0 .leaf [z0, z2, (iN 5)])))
noncomputable abbrev q711 : Nat × Blk := (6842, (.map [(z1, z1, 0), ((iN 3), z1, 1), ((iN 6), z1, 2)] 3))
noncomputable abbrev q712 : Nat × Blk := (40, (.cells 4 true [] (T.ofList 0 .leaf [(uN 76), tx5, z0, (uN 0)])))
noncomputable abbrev g5_14 (x0 : AV) : Nat × Blk := (5, (.cells 4 true [] (T.ofList 0 .leaf [x0, tx1, z0, (uN 0)])))
noncomputable abbrev q713 : Nat × Blk := g5_14 (uN 90)
noncomputable abbrev q714 : Nat × Blk := g5_14 (uN 67)
noncomputable abbrev q715 : Nat × Blk := g5_14 (uN 74)
noncomputable abbrev q716 : Nat × Blk := g5_14 (uN 73)
noncomputable abbrev q717 : Nat × Blk := (40, (.cells 4 true [] (T.ofList 0 .leaf [(uN 76), tx6, z0, (uN 0)])))
noncomputable abbrev q718 : Nat × Blk := (2, (.map [(tx2, (pN 199), 0), (tx35, (pN 347), 1), (tx36, (pN 456), 2), (tx17, (pN 567), 3), (tx37, (pN 681), 4), (tx39, (pN 794), 5), (tx32, (pN 891), 6), (tx43, (pN 985), 7), (tx18, (pN 1076), 8), (tx29, (pN 1166), 9), (tx26, (pN 1272), 10), (tx40, (pN 1375), 11), (tx23, (pN 1490), 12), (tx7, (pN 1588), 13), (tx12, (pN 1681), 14), (tx41, (pN 1786), 15), (tx11, (pN 1885), 16), (tx27, (pN 1997), 17), (tx33, (pN 2093), 18), (tx44, (pN 2194), 19), (tx42, (pN 2296), 20), (tx34, (pN 2406), 21), (tx5, (pN 2417), 22), (tx16, (pN 2528), 23), (tx8, (pN 2620), 24), (tx14, (pN 2727), 25), (tx6, (pN 2748), 26), (tx3, (pN 2805), 27), (tx20, (pN 2945), 28), (tx21, (pN 2957), 29), (tx10, (pN 3045), 30), (tx24, (pN 3145), 31), (tx51, (pN 3245), 32)] 33))
noncomputable abbrev q719 : Nat × Blk := (3, (.cells 3 false [] (T.ofList 0 .leaf [(.map 1), (.map 2), .nils])))
noncomputable abbrev q720 : Nat × Blk := (199, (.cells 8 false [] (T.ofList 0 .leaf [(iN 52), .nils, (iN 49), tx2, tx5, .nils, .nils, (.so 252 0 13 9)])))
noncomputable abbrev q721 : Nat × Blk := (1076, (.cells 8 false [] (T.ofList 0 .leaf [(iN 52), .nils, (iN 33), tx18, tx10, .nils, .nils, (.so 1085 0 2 9)])))
noncomputable abbrev q722 : Nat × Blk := (2417, (.cells 8 false [] (T.ofList 0 .leaf [(iN 52), .nils, (iN 33), tx5, tx1, .nils, .nils, (.so 2429 0 3 9)])))
noncomputable abbrev q723 : Nat × Blk := (2528, (.cells 8 false [] (T.ofList 0 .leaf [(iN 52), .nils, (iN 33), tx16, tx18, .nils, .nils, (.so 2537 0 2 9)])))
noncomputable abbrev q724 : Nat × Blk := (2727, (.cells 8 false [] (T.ofList 0 .leaf [(iN 52), .nils, (iN 33), tx14, tx18, .nils, .nils, (.so 2736 0 2 9)])))
noncomputable abbrev q725 : Nat × Blk := (3045, (.cells 8 false [] (T.ofList 0 .leaf [(iN 52), .nils, (iN 33), tx10, tx5, .nils, (.sl 3059 0 1 1), (.so 3058 0 3 9)])))
noncomputable abbrev q726 : Nat × Blk := (3059, (.cells 4 false [] (T.ofList 0 .leaf [z2, tx86, tx61, z0])))
theorem mixed : Tryz.prog.follows .mixedOrders = true := by kernel_rfl
variable [Tab]
noncomputable def K_CY0a : Hand := Hand.none
theorem K_CY0a_ok : HandOk Tryz.prog K_CY0a := HandOk.none

noncomputable def I25691 : In := ⟨52, [(pN 13824)], 29736, [q73, (13823, (.map [(tx0, (iN 261), 0)] 1)), q74, q22, q24, q25, q26, q75, q76, (19207, (.cells 1 true [] (T.ofList 0 .leaf [(pN 19205)]))), q77, q72], bT, 29763, [q66, (13823, (.map [(tx0, (iN 262), 0)] 1)), q68, q22, q24, q25, q26, q69, q70, (19207, (.cells 1 true [] (T.ofList 0 .leaf [(pN 19205)]))), q71, q72]⟩
theorem I25691_ok : InOk Tryz.prog I25691 := InOk.of_run (K := K_CY0a) (n := 5000) mixed K_CY0a_ok (by kernel_rfl) (by as_aux_lemma => kernel_rfl)

noncomputable def I25615 : In := ⟨52, [(pN 13824)], 29636, [q73, (13823, (.map [(tx0, (iN 258), 0)] 1)), q86, q22, q24, q25, q26, q87, q88, (19207, (.cells 1 true [] (T.ofList 0 .leaf [(pN 19205)]))), q89, q72], bT, 29663, [q66, (13823, (.map [(tx0, (iN 259), 0)] 1)), q82, q22, q24, q25, q26, q83, q84, (19207, (.cells 1 true [] (T.ofList 0 .leaf [(pN 19205)]))), q85, q72]⟩
theorem I25615_ok : InOk Tryz.prog I25615 := InOk.of_run (K := K_CY0a) (n := 5000) mixed K_CY0a_ok (by kernel_rfl) (by as_aux_lemma => kernel_rfl)

noncomputable def I25423 : In := ⟨52, [(pN 13824)], 29402, [q78, (13823, (.map [(tx0, (iN 252), 0)] 1)), q112, q22, q24, q25, q26, q113, q114, (19207, (.cells 1 true [] (T.ofList 0 .leaf [(pN 19205)]))), q115, q111], bT, 29429, [q105, (13823, (.map [(tx0, (iN 253), 0)] 1)), q106, q22, q24, q25, q26, q107, q108, (19207, (.cells 1 true [] (T.ofList 0 .leaf [(pN 19205)]))), q110, q111]⟩
theorem I25423_ok : InOk Tryz.prog I25423 := InOk.of_run (K := K_CY0a) (n := 5000) mixed K_CY0a_ok (by kernel_rfl) (by as_aux_lemma => kernel_rfl)

noncomputable def I25323 : In := ⟨52, [(pN 13824)], 29255, [q73, (13823, (.map [(tx0, (iN 248), 0)] 1)), q128, q22, q24, q25, q26, q75, q129, (19207, (.cells 1 true [] (T.ofList 0 .leaf [(pN 19205)]))), q130, q72], bT, 29282, [q66, (13823, (.map [(tx0, (iN 249), 0)] 1)), q124, q22, q24, q25, q26, q125, q126, (19207, (.cells 1 true [] (T.ofList 0 .leaf [(pN 19205)]))), q127, q72]⟩
theorem I25323_ok : InOk Tryz.prog I25323 := InOk.of_run (K := K_CY0a) (n := 5000) mixed K_CY0a_ok (by kernel_rfl) (by as_aux_lemma => kernel_rfl)

noncomputable def I25240 : In := ⟨52, [(pN 13824)], 29132, [q73, (13823, (.map [(tx0, (iN 245), 0)] 1)), q134, q22, q24, q25, q26, q87, q88, (19207, (.cells 1 true [] (T.ofList 0 .leaf [(pN 19205)]))), q135, q72], bT, 29159, [q66, (13823, (.map [(tx0, (iN 246), 0)] 1)), q132, q22, q24, q25, q26, q83, q84, (19207, (.cells 1 true [] (T.ofList 0 .leaf [(pN 19205)]))), q133, q72]⟩
theorem I25240_ok : InOk Tryz.prog I25240 := InOk.of_run (K := K_CY0a) (n := 5000) mixed K_CY0a_ok (by kernel_rfl) (by as_aux_lemma => kernel_rfl)

noncomputable def I25048 : In := ⟨52, [(pN 13824)], 28898, [q78, (13823, (.map [(tx0, (iN 239), 0)] 1)), q145, q22, q24, q25, q26, q113, q114, (19207, (.cells 1 true [] (T.ofList 0 .leaf [(pN 19205)]))), q146, q111], bT, 28925, [q105, (13823, (.map [(tx0, (iN 240), 0)] 1)), q143, q22, q24, q25, q26, q107, q108, (19207, (.cells 1 true [] (T.ofList 0 .leaf [(pN 19205)]))), q144, q111]⟩
theorem I25048_ok : InOk Tryz.prog I25048 := InOk.of_run (K := K_CY0a) (n := 5000) mixed K_CY0a_ok (by kernel_rfl) (by as_aux_lemma => kernel_rfl)

noncomputable def I24948 : In := ⟨52, [(pN 13824)], 28751, [q73, (13823, (.map [(tx0, (iN 235), 0)] 1)), q153, q22, q24, q25, q26, q75, q129, (19207, (.cells 1 true [] (T.ofList 0 .leaf [(pN 19205)]))), q154, q72], bT, 28778, [q66, (13823, (.map [(tx0, (iN 236), 0)] 1)), q151, q22, q24, q25, q26, q125, q126, (19207, (.cells 1 true [] (T.ofList 0 .leaf [(pN 19205)]))), q152, q72]⟩
theorem I24948_ok : InOk Tryz.prog I24948 := InOk.of_run (K := K_CY0a) (n := 5000) mixed K_CY0a_ok (by kernel_rfl) (by as_aux_lemma => kernel_rfl)

noncomputable def I24865 : In := ⟨52, [(pN 13824)], 28628, [q73, (13823, (.map [(tx0, (iN 232), 0)] 1)), q158, q22, q24, q25, q26, q87, q88, (19207, (.cells 1 true [] (T.ofList 0 .leaf [(pN 19205)]))), q159, q72], bT, 28655, [q66, (13823, (.map [(tx0, (iN 233), 0)] 1)), q156, q22, q24, q25, q26, q83, q84, (19207, (.cells 1 true [] (T.ofList 0 .leaf [(pN 19205)]))), q157, q72]⟩
theorem I24865_ok : InOk Tryz.prog I24865 := InOk.of_run (K := K_CY0a) (n := 5000) mixed K_CY0a_ok (by kernel_rfl) (by as_aux_lemma => kernel_rfl)

noncomputable def I24673 : In := ⟨52, [(pN 13824)], 28394, [q78, (13823, (.map [(tx0, (iN 226), 0)] 1)), q169, q22, q24, q25, q26, q113, q114, (19207, (.cells 1 true [] (T.ofList 0 .leaf [(pN 19205)]))), q170, q111], bT, 28421, [q105, (13823, (.map [(tx0, (iN 227), 0)] 1)), q167, q22, q24, q25, q26, q107, q108, (19207, (.cells 1 true [] (T.ofList 0 .leaf [(pN 19205)]))), q168, q111]⟩
theorem I24673_ok : InOk Tryz.prog I24673 := InOk.of_run (K := K_CY0a) (n := 5000) mixed K_CY0a_ok (by kernel_rfl) (by as_aux_lemma => kernel_rfl)

noncomputable def I24573 : In := ⟨52, [(pN 13824)], 28247, [q73, (13823, (.map [(tx0, (iN 222), 0)] 1)), q177, q22, q24, q25, q26, q75, q129, (19207, (.cells 1 true [] (T.ofList 0 .leaf [(pN 19205)]))), q178, q72], bT, 28274, [q66, (13823, (.map [(tx0, (iN 223), 0)] 1)), q175, q22, q24, q25, q26, q125, q126, (19207, (.cells 1 true [] (T.ofList 0 .leaf [(pN 19205)]))), q176, q72]⟩
theorem I24573_ok : InOk Tryz.prog I24573 := InOk.of_run (K := K_CY0a) (n := 5000) mixed K_CY0a_ok (by kernel_rfl) (by as_aux_lemma => kernel_rfl)

noncomputable def I24490 : In := ⟨52, [(pN 13824)], 28124, [q73, (13823, (.map [(tx0, (iN 219), 0)] 1)), q182, q22, q24, q25, q26, q87, q88, (19207, (.cells 1 true [] (T.ofList 0 .leaf [(pN 19205)]))), q183, q72], bT, 28151, [q66, (13823, (.map [(tx0, (iN 220), 0)] 1)), q180, q22, q24, q25, q26, q83, q84, (19207, (.cells 1 true [] (T.ofList 0 .leaf [(pN 19205)]))), q181, q72]⟩
theorem I24490_ok : InOk Tryz.prog I24490 := InOk.of_run (K := K_CY0a) (n := 5000) mixed K_CY0a_ok (by kernel_rfl) (by as_aux_lemma => kernel_rfl)

noncomputable def I24298 : In := ⟨52, [(pN 13824)], 27890, [q78, (13823, (.map [(tx0, (iN 213), 0)] 1)), q193, q22, q24, q25, q26, q113, q114, (19207, (.cells 1 true [] (T.ofList 0 .leaf [(pN 19205)]))), q194, q111], bT, 27917, [q105, (13823, (.map [(tx0, (iN 214), 0)] 1)), q191, q22, q24, q25, q26, q107, q108, (19207, (.cells 1 true [] (T.ofList 0 .leaf [(pN 19205)]))), q192, q111]⟩
theorem I24298_ok : InOk Tryz.prog I24298 := InOk.of_run (K := K_CY0a) (n := 5000) mixed K_CY0a_ok (by kernel_rfl) (by as_aux_lemma => kernel_rfl)

noncomputable def I24198 : In := ⟨52, [(pN 13824)], 27743, [q73, (13823, (.map [(tx0, (iN 209), 0)] 1)), q201, q22, q24, q25, q26, q75, q129, (19207, (.cells 1 true [] (T.ofList 0 .leaf [(pN 19205)]))), q202, q72], bT, 27770, [q66, (13823, (.map [(tx0, (iN 210), 0)] 1)), q199, q22, q24, q25, q26, q125, q126, (19207, (.cells 1 true [] (T.ofList 0 .leaf [(pN 19205)]))), q200, q72]⟩
theorem I24198_ok : InOk Tryz.prog I24198 := InOk.of_run (K := K_CY0a) (n := 5000) mixed K_CY0a_ok (by kernel_rfl) (by as_aux_lemma => kernel_rfl)

noncomputable def I24115 : In := ⟨52, [(pN 13824)], 27620, [q73, (13823, (.map [(tx0, (iN 206), 0)] 1)), q206, q22, q24, q25, q26, q87, q88, (19207, (.cells 1 true [] (T.ofList 0 .leaf [(pN 19205)]))), q207, q72], bT, 27647, [q66, (13823, (.map [(tx0, (iN 207), 0)] 1)), q204, q22, q24, q25, q26, q83, q84, (19207, (.cells 1 true [] (T.ofList 0 .leaf [(pN 19205)]))), q205, q72]⟩
theorem I24115_ok : InOk Tryz.prog I24115 := InOk.of_run (K := K_CY0a) (n := 5000) mixed K_CY0a_ok (by kernel_rfl) (by as_aux_lemma => kernel_rfl)

noncomputable def I23923 : In := ⟨52, [(pN 13824)], 27386, [q78, (13823, (.map [(tx0, (iN 200), 0)] 1)), q217, q22, q24, q25, q26, q113, q114, (19207, (.cells 1 true [] (T.ofList 0 .leaf [(pN 19205)]))), q218, q111], bT, 27413, [q105, (13823, (.map [(tx0, (iN 201), 0)] 1)), q215, q22, q24, q25, q26, q107, q108, (19207, (.cells 1 true [] (T.ofList 0 .leaf [(pN 19205)]))), q216, q111]⟩
theorem I23923_ok : InOk Tryz.prog I23923 := InOk.of_run (K := K_CY0a) (n := 5000) mixed K_CY0a_ok (by kernel_rfl) (by as_aux_lemma => kernel_rfl)

noncomputable def I23823 : In := ⟨52, [(pN 13824)], 27239, [q73, (13823, (.map [(tx0, (iN 196), 0)] 1)), q225, q22, q24, q25, q26, q75, q129, (19207, (.cells 1 true [] (T.ofList 0 .leaf [(pN 19205)]))), q226, q72], bT, 27266, [q66, (13823, (.map [(tx0, (iN 197), 0)] 1)), q223, q22, q24, q25, q26, q125, q126, (19207, (.cells 1 true [] (T.ofList 0 .leaf [(pN 19205)]))), q224, q72]⟩
theorem I23823_ok : InOk Tryz.prog I23823 := InOk.of_run (K := K_CY0a) (n := 5000) mixed K_CY0a_ok (by kernel_rfl) (by as_aux_lemma => kernel_rfl)

noncomputable def I23740 : In := ⟨52, [(pN 13824)], 27116, [q73, (13823, (.map [(tx0, (iN 193), 0)] 1)), q230, q22, q24, q25, q26, q87, q88, (19207, (.cells 1 true [] (T.ofList 0 .leaf [(pN 19205)]))), q231, q72], bT, 27143, [q66, (13823, (.map [(tx0, (iN 194), 0)] 1)), q228, q22, q24, q25, q26, q83, q84, (19207, (.cells 1 true [] (T.ofList 0 .leaf [(pN 19205)]))), q229, q72]⟩
theorem I23740_ok : InOk Tryz.prog I23740 := InOk.of_run (K := K_CY0a) (n := 5000) mixed K_CY0a_ok (by kernel_rfl) (by as_aux_lemma => kernel_rfl)

noncomputable def I23548 : In := ⟨52, [(pN 13824)], 26882, [q78, (13823, (.map [(tx0, (iN 187), 0)] 1)), q241, q22, q24, q25, q26, q113, q114, (19207, (.cells 1 true [] (T.ofList 0 .leaf [(pN 19205)]))), q242, q111], bT, 26909, [q105, (13823, (.map [(tx0, (iN 188), 0)] 1)), q239, q22, q24, q25, q26, q107, q108, (19207, (.cells 1 true [] (T.ofList 0 .leaf [(pN 19205)]))), q240, q111]⟩
theorem I23548_ok : InOk Tryz.prog I23548 := InOk.of_run (K := K_CY0a) (n := 5000) mixed K_CY0a_ok (by kernel_rfl) (by as_aux_lemma => kernel_rfl)

noncomputable def I23448 : In := ⟨52, [(pN 13824)], 26735, [q73, (13823, (.map [(tx0, (iN 183), 0)] 1)), q249, q22, q24, q25, q26, q75, q129, (19207, (.cells 1 true [] (T.ofList 0 .leaf [(pN 19205)]))), q250, q72], bT, 26762, [q66, (13823, (.map [(tx0, (iN 184), 0)] 1)), q247, q22, q24, q25, q26, q125, q126, (19207, (.cells 1 true [] (T.ofList 0 .leaf [(pN 19205)]))), q248, q72]⟩
theorem I23448_ok : InOk Tryz.prog I23448 := InOk.of_run (K := K_CY0a) (n := 5000) mixed K_CY0a_ok (by kernel_rfl) (by as_aux_lemma => kernel_rfl)

noncomputable def I23365 : In := ⟨52, [(pN 13824)], 26612, [q73, (13823, (.map [(tx0, (iN 180), 0)] 1)), q254, q22, q24, q25, q26, q87, q88, (19207, (.cells 1 true [] (T.ofList 0 .leaf [(pN 19205)]))), q255, q72], bT, 26639, [q66, (13823, (.map [(tx0, (iN 181), 0)] 1)), q252, q22, q24, q25, q26, q83, q84, (19207, (.cells 1 true [] (T.ofList 0 .leaf [(pN 19205)]))), q253, q72]⟩
theorem I23365_ok : InOk Tryz.prog I23365 := InOk.of_run (K := K_CY0a) (n := 5000) mixed K_CY0a_ok (by kernel_rfl) (by as_aux_lemma => kernel_rfl)

noncomputable def I23173 : In := ⟨52, [(pN 13824)], 26378, [q78, (13823, (.map [(tx0, (iN 174), 0)] 1)), q265, q22, q24, q25, q26, q113, q114, (19207, (.cells 1 true [] (T.ofList 0 .leaf [(pN 19205)]))), q266, q111], bT, 26405, [q105, (13823, (.map [(tx0, (iN 175), 0)] 1)), q263, q22, q24, q25, q26, q107, q108, (19207, (.cells 1 true [] (T.ofList 0 .leaf [(pN 19205)]))), q264, q111]⟩
theorem I23173_ok : InOk Tryz.prog I23173 := InOk.of_run (K := K_CY0a) (n := 5000) mixed K_CY0a_ok (by kernel_rfl) (by as_aux_lemma => kernel_rfl)

noncomputable def I23073 : In := ⟨52, [(pN 13824)], 26231, [q73, (13823, (.map [(tx0, (iN 170), 0)] 1)), q273, q22, q24, q25, q26, q75, q129, (19207, (.cells 1 true [] (T.ofList 0 .leaf [(pN 19205)]))), q274, q72], bT, 26258, [q66, (13823, (.map [(tx0, (iN 171), 0)] 1)), q271, q22, q24, q25, q26, q125, q126, (19207, (.cells 1 true [] (T.ofList 0 .leaf [(pN 19205)]))), q272, q72]⟩
theorem I23073_ok : InOk Tryz.prog I23073 := InOk.of_run (K := K_CY0a) (n := 5000) mixed K_CY0a_ok (by kernel_rfl) (by as_aux_lemma => kernel_rfl)

noncomputable def I22990 : In := ⟨52, [(pN 13824)], 26108, [q73, (13823, (.map [(tx0, (iN 167), 0)] 1)), q278, q22, q24, q25, q26, q87, q88, (19207, (.cells 1 true [] (T.ofList 0 .leaf [(pN 19205)]))), q279, q72], bT, 26135, [q66, (13823, (.map [(tx0, (iN 168), 0)] 1)), q276, q22, q24, q25, q26, q83, q84, (19207, (.cells 1 true [] (T.ofList 0 .leaf [(pN 19205)]))), q277, q72]⟩
theorem I22990_ok : InOk Tryz.prog I22990 := InOk.of_run (K := K_CY0a) (n := 5000) mixed K_CY0a_ok (by kernel_rfl) (by as_aux_lemma => kernel_rfl)

noncomputable def I22798 : In := ⟨52, [(pN 13824)], 25874, [q78, (13823, (.map [(tx0, (iN 161), 0)] 1)), q289, q22, q24, q25, q26, q113, q114, (19207, (.cells 1 true [] (T.ofList 0 .leaf [(pN 19205)]))), q290, q111], bT, 25901, [q105, (13823, (.map [(tx0, (iN 162), 0)] 1)), q287, q22, q24, q25, q26, q107, q108, (19207, (.cells 1 true [] (T.ofList 0 .leaf [(pN 19205)]))), q288, q111]⟩
theorem I22798_ok : InOk Tryz.prog I22798 := InOk.of_run (K := K_CY0a) (n := 5000) mixed K_CY0a_ok (by kernel_rfl) (by as_aux_lemma => kernel_rfl)

noncomputable def I22698 : In := ⟨52, [(pN 13824)], 25727, [q73, (13823, (.map [(tx0, (iN 157), 0)] 1)), q297, q22, q24, q25, q26, q75, q129, (19207, (.cells 1 true [] (T.ofList 0 .leaf [(pN 19205)]))), q298, q72], bT, 25754, [q66, (13823, (.map [(tx0, (iN 158), 0)] 1)), q295, q22, q24, q25, q26, q125, q126, (19207, (.cells 1 true [] (T.ofList 0 .leaf [(pN 19205)]))), q296, q72]⟩
theorem I22698_ok : InOk Tryz.prog I22698 := InOk.of_run (K := K_CY0a) (n := 5000) mixed K_CY0a_ok (by kernel_rfl) (by as_aux_lemma => kernel_rfl)

noncomputable def I22615 : In := ⟨52, [(pN 13824)], 25604, [q73, (13823, (.map [(tx0, (iN 154), 0)] 1)), q302, q22, q24, q25, q26, q87, q88, (19207, (.cells 1 true [] (T.ofList 0 .leaf [(pN 19205)]))), q303, q72], bT, 25631, [q66, (13823, (.map [(tx0, (iN 155), 0)] 1)), q300, q22, q24, q25, q26, q83, q84, (19207, (.cells 1 true [] (T.ofList 0 .leaf [(pN 19205)]))), q301, q72]⟩
theorem I22615_ok : InOk Tryz.prog I22615 := InOk.of_run (K := K_CY0a) (n := 5000) mixed K_CY0a_ok (by kernel_rfl) (by as_aux_lemma => kernel_rfl)

noncomputable def I22423 : In := ⟨52, [(pN 13824)], 25370, [q78, (13823, (.map [(tx0, (iN 148), 0)] 1)), q313, q22, q24, q25, q26, q113, q114, (19207, (.cells 1 true [] (T.ofList 0 .leaf [(pN 19205)]))), q314, q111], bT, 25397, [q105, (13823, (.map [(tx0, (iN 149), 0)] 1)), q311, q22, q24, q25, q26, q107, q108, (19207, (.cells 1 true [] (T.ofList 0 .leaf [(pN 19205)]))), q312, q111]⟩
theorem I22423_ok : InOk Tryz.prog I22423 := InOk.of_run (K := K_CY0a) (n := 5000) mixed K_CY0a_ok (by kernel_rfl) (by as_aux_lemma => kernel_rfl)

noncomputable def I22323 : In := ⟨52, [(pN 13824)], 25223, [q73, (13823, (.map [(tx0, (iN 144), 0)] 1)), q321, q22, q24, q25, q26, q75, q129, (19207, (.cells 1 true [] (T.ofList 0 .leaf [(pN 19205)]))), q322, q72], bT, 25250, [q66, (13823, (.map [(tx0, (iN 145), 0)] 1)), q319, q22, q24, q25, q26, q125, q126, (19207, (.cells 1 true [] (T.ofList 0 .leaf [(pN 19205)]))), q320, q72]⟩
theorem I22323_ok : InOk Tryz.prog I22323 := InOk.of_run (K := K_CY0a) (n := 5000) mixed K_CY0a_ok (by kernel_rfl) (by as_aux_lemma => kernel_rfl)

noncomputable def I22240 : In := ⟨52, [(pN 13824)], 25100, [q73, (13823, (.map [(tx0, (iN 141), 0)] 1)), q326, q22, q24, q25, q26, q87, q88, (19207, (.cells 1 true [] (T.ofList 0 .leaf [(pN 19205)]))), q327, q72], bT, 25127, [q66, (13823, (.map [(tx0, (iN 142), 0)] 1)), q324, q22, q24, q25, q26, q83, q84, (19207, (.cells 1 true [] (T.ofList 0 .leaf [(pN 19205)]))), q325, q72]⟩
theorem I22240_ok : InOk Tryz.prog I22240 := InOk.of_run (K := K_CY0a) (n := 5000) mixed K_CY0a_ok (by kernel_rfl) (by as_aux_lemma => kernel_rfl)

noncomputable def I22048 : In := ⟨52, [(pN 13824)], 24866, [q78, (13823, (.map [(tx0, (iN 135), 0)] 1)), q337, q22, q24, q25, q26, q113, q114, (19207, (.cells 1 true [] (T.ofList 0 .leaf [(pN 19205)]))), q338, q339], bT, 24893, [q105, (13823, (.map [(tx0, (iN 136), 0)] 1)), q335, q22, q24, q25, q26, q107, q108, (19207, (.cells 1 true [] (T.ofList 0 .leaf [(pN 19205)]))), q336, q111]⟩
theorem I22048_ok : InOk Tryz.prog I22048 := InOk.of_run (K := K_CY0a) (n := 5000) mixed K_CY0a_ok (by kernel_rfl) (by as_aux_lemma => kernel_rfl)

noncomputable def I21948 : In := ⟨52, [(pN 13824)], 24719, [q73, (13823, (.map [(tx0, (iN 131), 0)] 1)), q346, q22, q24, q25, q26, q75, q129, (19207, (.cells 1 true [] (T.ofList 0 .leaf [(pN 19205)]))), q345, q342], bT, 24746, [q66, (13823, (.map [(tx0, (iN 132), 0)] 1)), q344, q22, q24, q25, q26, q125, q126, (19207, (.cells 1 true [] (T.ofList 0 .leaf [(pN 19205)]))), q345, q342]⟩
theorem I21948_ok : InOk Tryz.prog I21948 := InOk.of_run (K := K_CY0a) (n := 5000) mixed K_CY0a_ok (by kernel_rfl) (by as_aux_lemma => kernel_rfl)

noncomputable def I21865 : In := ⟨52, [(pN 13824)], 24596, [q73, (13823, (.map [(tx0, (iN 128), 0)] 1)), q350, q22, q24, q25, q26, q351, q88, (19207, (.cells 1 true [] (T.ofList 0 .leaf [(pN 19205)]))), q349, q342], bT, 24623, [q66, (13823, (.map [(tx0, (iN 129), 0)] 1)), q348, q22, q24, q25, q26, q83, q84, (19207, (.cells 1 true [] (T.ofList 0 .leaf [(pN 19205)]))), q349, q342]⟩
theorem I21865_ok : InOk Tryz.prog I21865 := InOk.of_run (K := K_CY0a) (n := 5000) mixed K_CY0a_ok (by kernel_rfl) (by as_aux_lemma => kernel_rfl)

noncomputable def I20431 : In := ⟨52, [(pN 13824)], 23768, [q359, (13823, (.map [(tx0, (iN 117), 0)] 1)), q372, q22, q24, q25, q26, q373, q374, (19207, (.cells 1 true [] (T.ofList 0 .leaf [(pN 19205)]))), q375, q49], bT, 23795, [q44, (13823, (.map [(tx0, (iN 118), 0)] 1)), q368, q22, q24, q25, q26, q369, q370, (19207, (.cells 1 true [] (T.ofList 0 .leaf [(pN 19205)]))), q371, q364]⟩
theorem I20431_ok : InOk Tryz.prog I20431 := InOk.of_run (K := K_CY0a) (n := 5000) mixed K_CY0a_ok (by kernel_rfl) (by as_aux_lemma => kernel_rfl)

noncomputable def I20262 : In := ⟨52, [(pN 13824)], 23557, [q39, (13823, (.map [(tx0, (iN 112), 0)] 1)), q391, q22, q24, q25, q26, q392, q393, (19207, (.cells 1 true [] (T.ofList 0 .leaf [(pN 19205)]))), q394, q49], bT, 23584, [q33, (13823, (.map [(tx0, (iN 113), 0)] 1)), q387, q22, q24, q25, q26, q388, q389, (19207, (.cells 1 true [] (T.ofList 0 .leaf [(pN 19205)]))), q390, q49]⟩
theorem I20262_ok : InOk Tryz.prog I20262 := InOk.of_run (K := K_CY0a) (n := 5000) mixed K_CY0a_ok (by kernel_rfl) (by as_aux_lemma => kernel_rfl)

noncomputable def I20239 : In := ⟨52, [(pN 13824)], 23530, [q50, (13823, (.map [(tx0, (iN 111), 0)] 1)), q395, q22, q24, q25, q26, q396, q397, (19207, (.cells 1 true [] (T.ofList 0 .leaf [(pN 19205)]))), q398, q49], bT, 23557, [q39, (13823, (.map [(tx0, (iN 112), 0)] 1)), q391, q22, q24, q25, q26, q392, q393, (19207, (.cells 1 true [] (T.ofList 0 .leaf [(pN 19205)]))), q394, q49]⟩
theorem I20239_ok : InOk Tryz.prog I20239 := InOk.of_run (K := K_CY0a) (n := 5000) mixed K_CY0a_ok (by kernel_rfl) (by as_aux_lemma => kernel_rfl)

noncomputable def I20216 : In := ⟨52, [(pN 13824)], 23503, [q44, (13823, (.map [(tx0, (iN 110), 0)] 1)), q399, q22, q24, q25, q26, q400, q401, (19207, (.cells 1 true [] (T.ofList 0 .leaf [(pN 19205)]))), q402, q49], bT, 23530, [q50, (13823, (.map [(tx0, (iN 111), 0)] 1)), q395, q22, q24, q25, q26, q396, q397, (19207, (.cells 1 true [] (T.ofList 0 .leaf [(pN 19205)]))), q398, q49]⟩
theorem I20216_ok : InOk Tryz.prog I20216 := InOk.of_run (K := K_CY0a) (n := 5000) mixed K_CY0a_ok (by kernel_rfl) (by as_aux_lemma => kernel_rfl)

noncomputable def I20110 : In := ⟨52, [(pN 13824)], 23343, [q359, (13823, (.map [(tx0, (iN 106), 0)] 1)), q408, q22, q24, q25, q26, q373, q374, (19207, (.cells 1 true [] (T.ofList 0 .leaf [(pN 19205)]))), q407, q49], bT, 23370, [q44, (13823, (.map [(tx0, (iN 107), 0)] 1)), q406, q22, q24, q25, q26, q369, q370, (19207, (.cells 1 true [] (T.ofList 0 .leaf [(pN 19205)]))), q407, q364]⟩
theorem I20110_ok : InOk Tryz.prog I20110 := InOk.of_run (K := K_CY0a) (n := 5000) mixed K_CY0a_ok (by kernel_rfl) (by as_aux_lemma => kernel_rfl)

noncomputable def I19941 : In := ⟨52, [(pN 13824)], 23132, [q39, (13823, (.map [(tx0, (iN 101), 0)] 1)), q416, q22, q24, q25, q26, q392, q393, (19207, (.cells 1 true [] (T.ofList 0 .leaf [(pN 19205)]))), q417, q49], bT, 23159, [q33, (13823, (.map [(tx0, (iN 102), 0)] 1)), q414, q22, q24, q25, q26, q388, q389, (19207, (.cells 1 true [] (T.ofList 0 .leaf [(pN 19205)]))), q415, q49]⟩
theorem I19941_ok : InOk Tryz.prog I19941 := InOk.of_run (K := K_CY0a) (n := 5000) mixed K_CY0a_ok (by kernel_rfl) (by as_aux_lemma => kernel_rfl)

noncomputable def I19918 : In := ⟨52, [(pN 13824)], 23105, [q50, (13823, (.map [(tx0, (iN 100), 0)] 1)), q418, q22, q24, q25, q26, q396, q397, (19207, (.cells 1 true [] (T.ofList 0 .leaf [(pN 19205)]))), q419, q49], bT, 23132, [q39, (13823, (.map [(tx0, (iN 101), 0)] 1)), q416, q22, q24, q25, q26, q392, q393, (19207, (.cells 1 true [] (T.ofList 0 .leaf [(pN 19205)]))), q417, q49]⟩
theorem I19918_ok : InOk Tryz.prog I19918 := InOk.of_run (K := K_CY0a) (n := 5000) mixed K_CY0a_ok (by kernel_rfl) (by as_aux_lemma => kernel_rfl)

noncomputable def I19895 : In := ⟨52, [(pN 13824)], 23078, [q44, (13823, (.map [(tx0, (iN 99), 0)] 1)), q420, q22, q24, q25, q26, q400, q401, (19207, (.cells 1 true [] (T.ofList 0 .leaf [(pN 19205)]))), q421, q49], bT, 23105, [q50, (13823, (.map [(tx0, (iN 100), 0)] 1)), q418, q22, q24, q25, q26, q396, q397, (19207, (.cells 1 true [] (T.ofList 0 .leaf [(pN 19205)]))), q419, q49]⟩
theorem I19895_ok : InOk Tryz.prog I19895 := InOk.of_run (K := K_CY0a) (n := 5000) mixed K_CY0a_ok (by kernel_rfl) (by as_aux_lemma => kernel_rfl)

noncomputable def I19789 : In := ⟨52, [(pN 13824)], 22918, [q359, (13823, (.map [(tx0, (iN 95), 0)] 1)), q427, q22, q24, q25, q26, q373, q374, (19207, (.cells 1 true [] (T.ofList 0 .leaf [(pN 19205)]))), q428, q49], bT, 22945, [q44, (13823, (.map [(tx0, (iN 96), 0)] 1)), q425, q22, q24, q25, q26, q369, q370, (19207, (.cells 1 true [] (T.ofList 0 .leaf [(pN 19205)]))), q426, q364]⟩
theorem I19789_ok : InOk Tryz.prog I19789 := InOk.of_run (K := K_CY0a) (n := 5000) mixed K_CY0a_ok (by kernel_rfl) (by as_aux_lemma => kernel_rfl)

noncomputable def I19620 : In := ⟨52, [(pN 13824)], 22707, [q39, (13823, (.map [(tx0, (iN 90), 0)] 1)), q436, q22, q24, q25, q26, q392, q393, (19207, (.cells 1 true [] (T.ofList 0 .leaf [(pN 19205)]))), q437, q49], bT, 22734, [q33, (13823, (.map [(tx0, (iN 91), 0)] 1)), q434, q22, q24, q25, q26, q388, q389, (19207, (.cells 1 true [] (T.ofList 0 .leaf [(pN 19205)]))), q435, q49]⟩
theorem I19620_ok : InOk Tryz.prog I19620 := InOk.of_run (K := K_CY0a) (n := 5000) mixed K_CY0a_ok (by kernel_rfl) (by as_aux_lemma => kernel_rfl)

noncomputable def I19597 : In := ⟨52, [(pN 13824)], 22680, [q50, (13823, (.map [(tx0, (iN 89), 0)] 1)), q438, q22, q24, q25, q26, q396, q397, (19207, (.cells 1 true [] (T.ofList 0 .leaf [(pN 19205)]))), q439, q49], bT, 22707, [q39, (13823, (.map [(tx0, (iN 90), 0)] 1)), q436, q22, q24, q25, q26, q392, q393, (19207, (.cells 1 true [] (T.ofList 0 .leaf [(pN 19205)]))), q437, q49]⟩
theorem I19597_ok : InOk Tryz.prog I19597 := InOk.of_run (K := K_CY0a) (n := 5000) mixed K_CY0a_ok (by kernel_rfl) (by as_aux_lemma => kernel_rfl)

noncomputable def I19574 : In := ⟨52, [(pN 13824)], 22653, [q44, (13823, (.map [(tx0, (iN 88), 0)] 1)), q440, q22, q24, q25, q26, q400, q401, (19207, (.cells 1 true [] (T.ofList 0 .leaf [(pN 19205)]))), q441, q49], bT, 22680, [q50, (13823, (.map [(tx0, (iN 89), 0)] 1)), q438, q22, q24, q25, q26, q396, q397, (19207, (.cells 1 true [] (T.ofList 0 .leaf [(pN 19205)]))), q439, q49]⟩
theorem I19574_ok : InOk Tryz.prog I19574 := InOk.of_run (K := K_CY0a) (n := 5000) mixed K_CY0a_ok (by kernel_rfl) (by as_aux_lemma => kernel_rfl)

noncomputable def I19468 : In := ⟨52, [(pN 13824)], 22493, [q359, (13823, (.map [(tx0, (iN 84), 0)] 1)), q447, q22, q24, q25, q26, q373, q374, (19207, (.cells 1 true [] (T.ofList 0 .leaf [(pN 19205)]))), q448, q49], bT, 22520, [q44, (13823, (.map [(tx0, (iN 85), 0)] 1)), q445, q22, q24, q25, q26, q369, q370, (19207, (.cells 1 true [] (T.ofList 0 .leaf [(pN 19205)]))), q446, q364]⟩
theorem I19468_ok : InOk Tryz.prog I19468 := InOk.of_run (K := K_CY0a) (n := 5000) mixed K_CY0a_ok (by kernel_rfl) (by as_aux_lemma => kernel_rfl)

noncomputable def I19299 : In := ⟨52, [(pN 13824)], 22282, [q39, (13823, (.map [(tx0, (iN 79), 0)] 1)), q456, q22, q24, q25, q26, q392, q393, (19207, (.cells 1 true [] (T.ofList 0 .leaf [(pN 19205)]))), q457, q49], bT, 22309, [q33, (13823, (.map [(tx0, (iN 80), 0)] 1)), q454, q22, q24, q25, q26, q388, q389, (19207, (.cells 1 true [] (T.ofList 0 .leaf [(pN 19205)]))), q455, q49]⟩
theorem I19299_ok : InOk Tryz.prog I19299 := InOk.of_run (K := K_CY0a) (n := 5000) mixed K_CY0a_ok (by kernel_rfl) (by as_aux_lemma => kernel_rfl)

noncomputable def I19276 : In := ⟨52, [(pN 13824)], 22255, [q50, (13823, (.map [(tx0, (iN 78), 0)] 1)), q458, q22, q24, q25, q26, q396, q397, (19207, (.cells 1 true [] (T.ofList 0 .leaf [(pN 19205)]))), q459, q49], bT, 22282, [q39, (13823, (.map [(tx0, (iN 79), 0)] 1)), q456, q22, q24, q25, q26, q392, q393, (19207, (.cells 1 true [] (T.ofList 0 .leaf [(pN 19205)]))), q457, q49]⟩
theorem I19276_ok : InOk Tryz.prog I19276 := InOk.of_run (K := K_CY0a) (n := 5000) mixed K_CY0a_ok (by kernel_rfl) (by as_aux_lemma => kernel_rfl)

noncomputable def I19253 : In := ⟨52, [(pN 13824)], 22228, [q44, (13823, (.map [(tx0, (iN 77), 0)] 1)), q460, q22, q24, q25, q26, q400, q401, (19207, (.cells 1 true [] (T.ofList 0 .leaf [(pN 19205)]))), q461, q49], bT, 22255, [q50, (13823, (.map [(tx0, (iN 78), 0)] 1)), q458, q22, q24, q25, q26, q396, q397, (19207, (.cells 1 true [] (T.ofList 0 .leaf [(pN 19205)]))), q459, q49]⟩
theorem I19253_ok : InOk Tryz.prog I19253 := InOk.of_run (K := K_CY0a) (n := 5000) mixed K_CY0a_ok (by kernel_rfl) (by as_aux_lemma => kernel_rfl)

noncomputable def I19147 : In := ⟨52, [(pN 13824)], 22068, [q359, (13823, (.map [(tx0, (iN 73), 0)] 1)), q467, q22, q24, q25, q26, q373, q374, (19207, (.cells 1 true [] (T.ofList 0 .leaf [(pN 19205)]))), q468, q49], bT, 22095, [q44, (13823, (.map [(tx0, (iN 74), 0)] 1)), q465, q22, q24, q25, q26, q369, q370, (19207, (.cells 1 true [] (T.ofList 0 .leaf [(pN 19205)]))), q466, q364]⟩
theorem I19147_ok : InOk Tryz.prog I19147 := InOk.of_run (K := K_CY0a) (n := 5000) mixed K_CY0a_ok (by kernel_rfl) (by as_aux_lemma => kernel_rfl)

noncomputable def I18978 : In := ⟨52, [(pN 13824)], 21857, [q39, (13823, (.map [(tx0, (iN 68), 0)] 1)), q476, q22, q24, q25, q26, q392, q393, (19207, (.cells 1 true [] (T.ofList 0 .leaf [(pN 19205)]))), q477, q49], bT, 21884, [q33, (13823, (.map [(tx0, (iN 69), 0)] 1)), q474, q22, q24, q25, q26, q388, q389, (19207, (.cells 1 true [] (T.ofList 0 .leaf [(pN 19205)]))), q475, q49]⟩
theorem I18978_ok : InOk Tryz.prog I18978 := InOk.of_run (K := K_CY0a) (n := 5000) mixed K_CY0a_ok (by kernel_rfl) (by as_aux_lemma => kernel_rfl)

noncomputable def I18955 : In := ⟨52, [(pN 13824)], 21830, [q50, (13823, (.map [(tx0, (iN 67), 0)] 1)), q478, q22, q24, q25, q26, q396, q397, (19207, (.cells 1 true [] (T.ofList 0 .leaf [(pN 19205)]))), q479, q49], bT, 21857, [q39, (13823, (.map [(tx0, (iN 68), 0)] 1)), q476, q22, q24, q25, q26, q392, q393, (19207, (.cells 1 true [] (T.ofList 0 .leaf [(pN 19205)]))), q477, q49]⟩
theorem I18955_ok : InOk Tryz.prog I18955 := InOk.of_run (K := K_CY0a) (n := 5000) mixed K_CY0a_ok (by kernel_rfl) (by as_aux_lemma => kernel_rfl)

noncomputable def I18932 : In := ⟨52, [(pN 13824)], 21803, [q44, (13823, (.map [(tx0, (iN 66), 0)] 1)), q480, q22, q24, q25, q26, q400, q401, (19207, (.cells 1 true [] (T.ofList 0 .leaf [(pN 19205)]))), q481, q49], bT, 21830, [q50, (13823, (.map [(tx0, (iN 67), 0)] 1)), q478, q22, q24, q25, q26, q396, q397, (19207, (.cells 1 true [] (T.ofList 0 .leaf [(pN 19205)]))), q479, q49]⟩
theorem I18932_ok : InOk Tryz.prog I18932 := InOk.of_run (K := K_CY0a) (n := 5000) mixed K_CY0a_ok (by kernel_rfl) (by as_aux_lemma => kernel_rfl)

noncomputable def I18826 : In := ⟨52, [(pN 13824)], 21643, [q359, (13823, (.map [(tx0, (iN 62), 0)] 1)), q487, q22, q24, q25, q26, q373, q374, (19207, (.cells 1 true [] (T.ofList 0 .leaf [(pN 19205)]))), q488, q49], bT, 21670, [q44, (13823, (.map [(tx0, (iN 63), 0)] 1)), q485, q22, q24, q25, q26, q369, q370, (19207, (.cells 1 true [] (T.ofList 0 .leaf [(pN 19205)]))), q486, q364]⟩
theorem I18826_ok : InOk Tryz.prog I18826 := InOk.of_run (K := K_CY0a) (n := 5000) mixed K_CY0a_ok (by kernel_rfl) (by as_aux_lemma => kernel_rfl)
noncomputable def H_CY0a : Hand := (Hand.at 52 (Hand.sp 25370 (Hand.sp 23078 (Hand.sp 22255 (Hand.sp 21857 (Hand.sp 21803 (inHand I18826) ((inHand I18955).or (inHand I18932))) (Hand.sp 22068 (inHand I18978) ((inHand I19253).or (inHand I19147)))) (Hand.sp 22653 (Hand.sp 22282 (inHand I19276) ((inHand I19468).or (inHand I19299))) (Hand.sp 22707 ((inHand I19597).or (inHand I19574)) ((inHand I19789).or (inHand I19620))))) (Hand.sp 23557 (Hand.sp 23343 (Hand.sp 23105 (inHand I19895) ((inHand I19941).or (inHand I19918))) (Hand.sp 23503 (inHand I20110) ((inHand I20239).or (inHand I20216)))) (Hand.sp 24719 (Hand.sp 23768 (inHand I20262) ((inHand I21865).or (inHand I20431))) (Hand.sp 25100 ((inHand I22048).or (inHand I21948)) ((inHand I22323).or (inHand I22240)))))) (Hand.sp 27620 (Hand.sp 26378 (Hand.sp 25874 (Hand.sp 25604 (inHand I22423) ((inHand I22698).or (inHand I22615))) (Hand.sp 26108 (inHand I22798) ((inHand I23073).or (inHand I22990)))) (Hand.sp 26882 (Hand.sp 26612 (inHand I23173) ((inHand I23448).or (inHand I23365))) (Hand.sp 27239 ((inHand I23740).or (inHand I23548)) ((inHand I23923).or (inHand I23823))))) (Hand.sp 28751 (Hand.sp 28124 (Hand.sp 27743 (inHand I24115) ((inHand I24298).or (inHand I24198))) (Hand.sp 28394 ((inHand I24573).or (inHand I24490)) ((inHand I24865).or (inHand I24673)))) (Hand.sp 29255 (Hand.sp 28898 (inHand I24948) ((inHand I25240).or (inHand I25048))) (Hand.sp 29636 ((inHand I25423).or (inHand I25323)) ((inHand I25691).or (inHand I25615))))))))
theorem H_CY0a_ok : HandOk Tryz.prog H_CY0a := (HandOk.at 52 (HandOk.sp 25370 (HandOk.sp 23078 (HandOk.sp 22255 (HandOk.sp 21857 (HandOk.sp 21803 (inHand_ok I18826_ok (by kernel_rfl)) (HandOk.or (inHand_ok I18955_ok (by kernel_rfl)) (inHand_ok I18932_ok (by kernel_rfl)))) (HandOk.sp 22068 (inHand_ok I18978_ok (by kernel_rfl)) (HandOk.or (inHand_ok I19253_ok (by kernel_rfl)) (inHand_ok I19147_ok (by kernel_rfl))))) (HandOk.sp 22653 (HandOk.sp 22282 (inHand_ok I19276_ok (by kernel_rfl)) (HandOk.or (inHand_ok I19468_ok (by kernel_rfl)) (inHand_ok I19299_ok (by kernel_rfl)))) (HandOk.sp 22707 (HandOk.or (inHand_ok I19597_ok (by kernel_rfl)) (inHand_ok I19574_ok (by kernel_rfl))) (HandOk.or (inHand_ok I19789_ok (by kernel_rfl)) (inHand_ok I19620_ok (by kernel_rfl)))))) (HandOk.sp 23557 (HandOk.sp 23343 (HandOk.sp 23105 (inHand_ok I19895_ok (by kernel_rfl)) (HandOk.or (inHand_ok I19941_ok (by kernel_rfl)) (inHand_ok I19918_ok (by kernel_rfl)))) (HandOk.sp 23503 (inHand_ok I20110_ok (by kernel_rfl)) (HandOk.or (inHand_ok I20239_ok (by kernel_rfl)) (inHand_ok I20216_ok (by kernel_rfl))))) (HandOk.sp 24719 (HandOk.sp 23768 (inHand_ok I20262_ok (by kernel_rfl)) (HandOk.or (inHand_ok I21865_ok (by kernel_rfl)) (inHand_ok I20431_ok (by kernel_rfl)))) (HandOk.sp 25100 (HandOk.or (inHand_ok I22048_ok (by kernel_rfl)) (inHand_ok I21948_ok (by kernel_rfl))) (HandOk.or (inHand_ok I22323_ok (by kernel_rfl)) (inHand_ok I22240_ok (by kernel_rfl))))))) (HandOk.sp 27620 (HandOk.sp 26378 (HandOk.sp 25874 (HandOk.sp 25604 (inHand_ok I22423_ok (by kernel_rfl)) (HandOk.or (inHand_ok I22698_ok (by kernel_rfl)) (inHand_ok I22615_ok (by kernel_rfl)))) (HandOk.sp 26108 (inHand_ok I22798_ok (by kernel_rfl)) (HandOk.or (inHand_ok I23073_ok (by kernel_rfl)) (inHand_ok I22990_ok (by kernel_rfl))))) (HandOk.sp 26882 (HandOk.sp 26612 (inHand_ok I23173_ok (by kernel_rfl)) (HandOk.or (inHand_ok I23448_ok (by kernel_rfl)) (inHand_ok I23365_ok (by kernel_rfl)))) (HandOk.sp 27239 (HandOk.or (inHand_ok I23740_ok (by kernel_rfl)) (inHand_ok I23548_ok (by kernel_rfl))) (HandOk.or (inHand_ok I23923_ok (by kernel_rfl)) (inHand_ok I23823_ok (by kernel_rfl)))))) (HandOk.sp 28751 (HandOk.sp 28124 (HandOk.sp 27743 (inHand_ok I24115_ok (by kernel_rfl)) (HandOk.or (inHand_ok I24298_ok (by kernel_rfl)) (inHand_ok I24198_ok (by kernel_rfl)))) (HandOk.sp 28394 (HandOk.or (inHand_ok I24573_ok (by kernel_rfl)) (inHand_ok I24490_ok (by kernel_rfl))) (HandOk.or (inHand_ok I24865_ok (by kernel_rfl)) (inHand_ok I24673_ok (by kernel_rfl))))) (HandOk.sp 29255 (HandOk.sp 28898 (inHand_ok I24948_ok (by kernel_rfl)) (HandOk.or (inHand_ok I25240_ok (by kernel_rfl)) (inHand_ok I25048_ok (by kernel_rfl)))) (HandOk.sp 29636 (HandOk.or (inHand_ok I25423_ok (by kernel_rfl)) (inHand_ok I25323_ok (by kernel_rfl))) (HandOk.or (inHand_ok I25691_ok (by kernel_rfl)) (inHand_ok I25615_ok (by kernel_rfl)))))))))
end Go.Proofs.YthgncmohimdbmaaGreatDoor.cy
