/-
  Contracts of calls, by the kernel.
-/
import Derived.Test.YtbgkinjicnnkiaaGreatDoorSNN
import Derived.Test.YtbgkinjicnnkiaaGreatDoorXN3
import Derived.Test.YtbgkinjicnnkiaaGreatDoorProg
import Derived.KernelRfl
set_option linter.unusedSectionVars false
set_option linter.unusedVariables false
set_option maxRecDepth 1000000
set_option maxHeartbeats 0
namespace Go.Proofs.YtbgkinjicnnkiaaGreatDoor.sq
open Go.X Go.RowKit
noncomputable abbrev g10977_0 (x0 : AV) : Nat × Blk := (10977, (.cells 7 false [] (T.ofList 0 .leaf [(pN 10971), (pN 10973), (pN 7718), (.so 11691 0 39 3), x0, bF, bF])))
noncomputable abbrev q0 : Nat × Blk := g10977_0 (.so 27119 0 18 1)
noncomputable abbrev g14317_1 (x0 x1 x2 x3 : AV) : Nat × Blk := (14317, (.cells 4 false [] (T.ofList 0 .leaf [x0, x1, x2, x3])))
noncomputable abbrev q1 : Nat × Blk := g14317_1 (.so 24770 0 2 1) (.so 24771 0 2 1) (.so 25374 0 1 7) (iN 8)
noncomputable abbrev q2 : Nat × Blk := (14318, (.map [(tx66, (pN 18694), 0), (tx3, (pN 18699), 1), (tx61, (pN 18799), 2), (tx19, (pN 20208), 3)] 4))
noncomputable abbrev q3 : Nat × Blk := (14320, (.map [(tx8, (iN 8), 0), (tx7, (iN 3), 1), (tx1, (iN 59), 2)] 3))
noncomputable abbrev g14321_2 (x0 x1 x2 x3 x4 : AV) : Nat × Blk := (14321, (.cells 32 false [] (T.ofList 0 .leaf [(pN 7718), (pN 10976), (pN 10971), (pN 10973), (pN 10977), (pN 14317), x0, (.map 14318), (.map 14319), .nils, z1, (iN 3), (iN 6), z0, .nilp, x1, x2, x3, z0, x4, z0, z0, (uN 0), z0, tx4, tx4, bF, z0, .nils, z0, z0, (.map 14320)])))
noncomputable abbrev q4 : Nat × Blk := g14321_2 (.so 25377 0 1 1) bT (iN 2000) (iN 70) z1
noncomputable abbrev q5 : Nat × Blk := (16430, (.cells 8 false [] (T.ofList 0 .leaf [(iN 52), (.sl 16432 0 30 30), (iN 33), tx66, tx3, .nils, .nils, (.so 17785 0 1 9)])))
noncomputable abbrev q6 : Nat × Blk := (17419, (.cells 19 true [] (T.ofList 0 .leaf [(uN 26), (uN 179), (uN 0), (uN 6), (uN 178), (uN 0), (uN 12), (uN 187), (uN 0), (uN 2), (uN 89), (uN 183), (uN 0), (uN 16), (uN 182), (uN 0), (uN 22), (uN 3), (uN 172)])))
noncomputable abbrev q7 : Nat × Blk := (17785, (.cells 9 true [] (T.ofList 0 .leaf [(iN 9), tx77, tx74, bT, (iN 3), z1, (.so 17419 0 19 1), .nils, .nils])))
noncomputable abbrev q8 : Nat × Blk := (18694, (.cells 2 false [] (T.ofList 0 .leaf [z2, (.sl 18698 0 0 0)])))
noncomputable abbrev g18708_3 (x0 x1 : AV) : Nat × Blk := (18708, (.cells 6 false [] (T.ofList 0 .leaf [z0, x0, (pN 16430), z0, x1, .nilp])))
noncomputable abbrev q9 : Nat × Blk := g18708_3 z0 (iN 18)
noncomputable abbrev q10 : Nat × Blk := (18799, (.cells 2 false [] (T.ofList 0 .leaf [z2, (.sl 20119 0 1 1)])))
noncomputable abbrev g24770_4 (x0 x1 x2 x3 x4 x5 x6 : AV) : Nat × Blk := (24770, (.cells 8 true [] (T.ofList 0 .leaf [(oN 1), x0, x1, x2, x3, x4, x5, x6])))
noncomputable abbrev q11 : Nat × Blk := g24770_4 z0 (iN 11) (iN 11) (iN 11) (iN 11) (iN 11) (iN 11)
noncomputable abbrev g24771_5 (x0 x1 x2 : AV) : Nat × Blk := (24771, (.cells 8 true [] (T.ofList 0 .leaf [bF, x0, bT, bT, bT, bT, x1, x2])))
noncomputable abbrev q12 : Nat × Blk := g24771_5 bF bT bT
noncomputable abbrev g25374_6 (x0 x1 x2 x3 x4 x5 x6 x7 x8 x9 x10 x11 x12 x13 : AV) : Nat × Blk := (25374, (.cells 49 true [] (T.ofList 0 .leaf [z0, z0, x0, z0, z1, (iN 3), x1, z1, z1, x2, z1, z1, z2, x3, z1, z1, x4, z2, z1, z2, x5, z1, z1, x6, (iN 3), z1, z2, x7, z1, z1, x8, (iN 4), z1, z2, x9, z1, z1, x10, (iN 5), z1, z2, x11, z1, z1, x12, (iN 6), z1, z2, x13])))
noncomputable abbrev q13 : Nat × Blk := g25374_6 (iN 17) z1 (iN 24) z0 (iN 24) z0 (iN 24) z0 (iN 24) z0 (iN 24) z0 (iN 24) z0
noncomputable abbrev q14 : Nat × Blk := (25377, (.cells 7 true [] (T.ofList 0 .leaf [(pN 18708), (pN 21055), (pN 21917), (pN 22780), (pN 23645), (pN 24510), (pN 25375)])))
noncomputable abbrev q15 : Nat × Blk := (27119, (.cells 18 true [] (T.ofList 0 .leaf [(uN 109), (uN 101), (uN 10), (uN 109), (uN 101), (uN 10), (uN 109), (uN 101), (uN 10), (uN 109), (uN 101), (uN 10), (uN 109), (uN 101), (uN 10), (uN 109), (uN 101), (uN 10)])))
noncomputable abbrev q16 : Nat × Blk := g14317_1 (.so 24770 0 1 1) (.so 24771 0 1 1) (.so 25374 0 1 7) (iN 8)
noncomputable abbrev q17 : Nat × Blk := (14320, (.map [(tx8, (iN 7), 0), (tx7, (iN 3), 1), (tx1, (iN 59), 2)] 3))
noncomputable abbrev q18 : Nat × Blk := g14321_2 (.so 25377 0 1 1) bT (iN 2000) (iN 69) z1
noncomputable abbrev q19 : Nat × Blk := g18708_3 z0 (iN 17)
noncomputable abbrev q20 : Nat × Blk := g24770_4 (iN 9) (iN 11) (iN 11) (iN 11) (iN 11) (iN 11) (iN 11)
noncomputable abbrev q21 : Nat × Blk := g24771_5 bT bT bT
noncomputable abbrev q22 : Nat × Blk := g25374_6 (iN 14) z0 (iN 24) z0 (iN 24) z0 (iN 24) z0 (iN 24) z0 (iN 24) z0 (iN 24) z0
noncomputable abbrev q23 : Nat × Blk := (7716, (.map [(tx61, (pN 14616), 0), (tx66, (pN 16430), 1)] 2))
noncomputable abbrev q24 : Nat × Blk := (7717, (.map [(tx0, (pN 7914), 0), (tx35, (pN 8062), 1), (tx36, (pN 8171), 2), (tx22, (pN 8282), 3), (tx37, (pN 8396), 4), (tx39, (pN 8509), 5), (tx32, (pN 8606), 6), (tx43, (pN 8700), 7), (tx26, (pN 8791), 8), (tx46, (pN 8881), 9), (tx28, (pN 8987), 10), (tx40, (pN 9090), 11), (tx23, (pN 9205), 12), (tx11, (pN 9303), 13), (tx20, (pN 9396), 14), (tx41, (pN 9501), 15), (tx18, (pN 9600), 16), (tx30, (pN 9712), 17), (tx33, (pN 9808), 18), (tx44, (pN 9909), 19), (tx42, (pN 10011), 20), (tx34, (pN 10121), 21), (tx3, (pN 10132), 22), (tx14, (pN 10243), 23), (tx16, (pN 10335), 24), (tx9, (pN 10442), 25), (tx5, (pN 10463), 26), (tx2, (pN 10520), 27), (tx21, (pN 10660), 28), (tx19, (pN 10672), 29), (tx12, (pN 10760), 30), (tx24, (pN 10860), 31), (tx47, (pN 10960), 32)] 33))
noncomputable abbrev g7718_7 (x0 : AV) : Nat × Blk := (7718, (.cells 3 false [] (T.ofList 0 .leaf [(.map 7716), (.map 7717), x0])))
noncomputable abbrev q25 : Nat × Blk := g7718_7 (.so 17787 0 2 1)
noncomputable abbrev q26 : Nat × Blk := (7914, (.cells 8 false [] (T.ofList 0 .leaf [(iN 52), .nils, (iN 49), tx0, tx3, .nils, .nils, (.so 7967 0 13 9)])))
noncomputable abbrev q27 : Nat × Blk := (10463, (.cells 8 false [] (T.ofList 0 .leaf [(iN 52), .nils, (iN 49), tx5, tx3, .nils, .nils, (.so 10504 0 10 9)])))
noncomputable abbrev g10971_8 (x0 x1 x2 : AV) : Nat × Blk := (10971, (.cells 5 false [] (T.ofList 0 .leaf [(pN 7718), x0, x1, x2, (.map 10970)])))
noncomputable abbrev q28 : Nat × Blk := g10971_8 (.so 25552 0 14 1) (.so 25554 0 5 1) (.so 25551 0 5 3)
noncomputable abbrev q29 : Nat × Blk := g10977_0 (.so 26850 0 15 1)
noncomputable abbrev q30 : Nat × Blk := (11691, (.cells 117 true [] (T.ofList 0 .leaf [tx4, z0, .nilf, tx3, z1, (.fn (.func 114) [] []), tx3, z2, (.fn (.func 115) [] []), tx3, z1, (.fn (.func 116) [] []), tx5, z1, (.fn (.func 120) [] []), tx5, z2, (.fn (.func 121) [] []), tx5, z2, (.fn (.func 122) [] []), tx5, z2, (.fn (.func 123) [] []), tx5, z1, (.fn (.func 124) [] []), tx5, z1, (.fn (.func 125) [] []), tx4, z1, (.fn (.func 126) [] [(pN 12185)]), tx4, z1, (.fn (.func 126) [] [(pN 12258)]), tx4, z1, (.fn (.func 126) [] [(pN 12332)]), tx4, z1, (.fn (.func 126) [] [(pN 12407)]), tx2, z1, (.fn (.func 129) [] []), tx2, z2, (.fn (.func 130) [] [(pN 12519)]), tx2, z2, (.fn (.func 130) [] [(pN 12651)]), tx2, z2, (.fn (.func 130) [] [(pN 12749)]), tx2, z2, (.fn (.func 130) [] [(pN 12848)]), tx2, z2, (.fn (.func 130) [] [(pN 12948)]), tx2, z1, (.fn (.func 135) [] []), tx2, z1, (.fn (.func 136) [] []), tx4, (iN 5), (.fn (.func 119) [] []), tx0, z2, (.fn (.func 137) [] [(pN 13180), (pN 13178)]), tx0, z2, (.fn (.func 137) [] [(pN 13286), (pN 13178)]), tx0, z2, (.fn (.func 137) [] [(pN 13358), (pN 13178)]), tx0, z2, (.fn (.func 137) [] [(pN 13431), (pN 13178)]), tx0, z2, (.fn (.func 137) [] [(pN 13505), (pN 13178)]), tx0, z2, (.fn (.func 137) [] [(pN 13580), (pN 13178)]), tx0, z2, (.fn (.func 137) [] [(pN 13693), (pN 13691)]), tx0, z2, (.fn (.func 137) [] [(pN 13805), (pN 13691)]), tx0, z2, (.fn (.func 137) [] [(pN 13883), (pN 13691)]), tx0, z2, (.fn (.func 137) [] [(pN 13962), (pN 13691)]), tx0, z2, (.fn (.func 137) [] [(pN 14042), (pN 13691)]), tx0, z2, (.fn (.func 137) [] [(pN 14123), (pN 13691)]), tx0, z1, (.fn (.func 139) [] []), tx12, z1, (.fn (.func 114) [] []), tx12, z2, (.fn (.func 117) [] []), tx12, z1, (.fn (.func 118) [] [])])))
noncomputable abbrev q31 : Nat × Blk := (13693, (.cells 1 false [] (T.ofList 0 .leaf [tx51])))
noncomputable abbrev q32 : Nat × Blk := g14317_1 (.so 24770 0 3 1) (.so 24771 0 3 1) (.so 25374 0 2 7) (iN 15)
noncomputable abbrev q33 : Nat × Blk := (14320, (.map [(tx8, (iN 7), 0), (tx7, (iN 3), 1), (tx1, (iN 58), 2)] 3))
noncomputable abbrev q34 : Nat × Blk := g14321_2 (.so 25377 0 2 1) bT (iN 2000) (iN 68) z1
noncomputable abbrev g14616_9 (x0 : AV) : Nat × Blk := (14616, (.cells 8 false [] (T.ofList 0 .leaf [(iN 52), (.sl 14618 0 31 31), (iN 33), tx61, tx3, .nils, (.so 15654 0 1 4), x0])))
noncomputable abbrev q35 : Nat × Blk := g14616_9 (.so 16333 0 2 9)
noncomputable abbrev q36 : Nat × Blk := (15877, (.cells 25 true [] (T.ofList 0 .leaf [(uN 178), (uN 0), (uN 13), (uN 158), (uN 0), (uN 18), (uN 178), (uN 0), (uN 13), (uN 4), (uN 100), (uN 179), (uN 0), (uN 13), (uN 178), (uN 0), (uN 19), (uN 42), (uN 182), (uN 0), (uN 25), (uN 19), (uN 0), (uN 27), (uN 176)])))
noncomputable abbrev q37 : Nat × Blk := (16327, (.cells 4 true [] (T.ofList 0 .leaf [(iN 255), (iN 21), (.so 16324 0 1 3), .nils])))
noncomputable abbrev q38 : Nat × Blk := (16333, (.cells 18 true [] (T.ofList 0 .leaf [z1, tx13, tx29, bT, z1, z1, (.so 15674 0 5 1), .nils, .nils, z1, tx31, tx10, bT, z2, z1, (.so 15877 0 25 1), .nils, (.so 16327 0 1 4)])))
noncomputable abbrev q39 : Nat × Blk := (16432, (.cells 150 false [z0, tx4, z0, z0, z0] (ofPairs [(5, z1), (6, tx61), (7, z0), (8, z0), (9, z0), (10, (iN 7)), (11, tx4), (12, z0), (13, z1), (14, z0), (15, z1), (16, tx79), (17, z0), (18, z0), (19, z0), (20, z1), (21, tx83), (22, z0), (23, z0), (24, z0), (25, (iN 12)), (26, tx4), (27, z0), (28, (iN 3)), (29, (iN 4)), (30, (iN 9)), (31, tx4), (32, z0), (33, z2), (34, (iN 5)), (35, z1), (36, tx19), (37, z0), (38, z0), (39, z0), (40, (iN 7)), (41, tx4), (42, z0), (43, (iN 7)), (44, z0), (45, z1), (46, tx72), (47, z0), (48, z0), (49, z0), (50, z1), (51, tx25), (52, z0), (53, z0), (54, z0), (55, (iN 12)), (56, tx4), (57, z0), (58, (iN 9)), (59, (iN 10)), (60, (iN 9)), (61, tx4), (62, z0), (63, (iN 8)), (64, (iN 11)), (65, z1), (66, tx13), (67, z0), (68, z0), (69, z0), (70, z1), (71, tx29), (72, z0), (73, z0), (74, z0), (75, (iN 12)), (76, tx4), (77, z0), (78, (iN 13)), (79, (iN 14)), (80, (iN 10)), (81, tx4), (82, z0), (83, z2), (84, (iN 15)), (85, z1), (86, tx0), (87, z0), (88, z0), (89, z0), (90, (iN 7)), (91, tx4), (92, z0), (93, (iN 17)), (94, z0), (95, z1), (96, tx15), (97, z0), (98, z0), (99, z0), (100, z1), (101, tx17), (102, z0), (103, z0), (104, z0), (105, (iN 12)), (106, tx4), (107, z0), (108, (iN 19)), (109, (iN 20)), (110, (iN 10)), (111, tx4), (112, z0), (113, (iN 18)), (114, (iN 21)), (115, z1), (116, tx77), (117, z0), (118, z0), (119, z0), (120, z1), (121, tx74), (122, z0), (123, z0), (124, z0), (125, z1), (126, tx78), (127, z0), (128, z0), (129, z0), (130, z1), (131, tx66), (132, z0), (133, z0), (134, z0), (135, (iN 7)), (136, tx4), (137, z0), (138, (iN 26)), (139, z0), (140, z1), (141, tx3), (142, z0), (143, z0), (144, z0), (145, (iN 7)), (146, tx4), (147, z0), (148, (iN 28)), (149, z0)])))
noncomputable abbrev q40 : Nat × Blk := g18708_3 z2 (iN 14)
noncomputable abbrev g21055_10 (x0 x1 : AV) : Nat × Blk := (21055, (.cells 6 false [] (T.ofList 0 .leaf [z2, x0, (pN 14616), z1, x1, .nilp])))
noncomputable abbrev q41 : Nat × Blk := g21055_10 z0 (iN 24)
noncomputable abbrev q42 : Nat × Blk := g25374_6 (iN 14) z0 (iN 21) z1 (iN 24) z0 (iN 24) z0 (iN 24) z0 (iN 24) z0 (iN 24) z0
noncomputable abbrev q43 : Nat × Blk := (25551, (.cells 15 true [] (T.ofList 0 .leaf [tx0, .nils, (uN 0), tx9, (.so 14440 0 1 1), (uN 0), tx14, (.so 14536 0 1 1), (uN 0), tx61, .nils, (uN 0), tx5, .nils, (uN 67)])))
noncomputable abbrev q44 : Nat × Blk := (25552, (.cells 14 true [] (T.ofList 0 .leaf [(.int .u64 0), (.int .u64 0), (.int .u64 1), (.int .u64 0), (.int .u64 0), (.int .u64 2), (.int .u64 0), (.int .u64 0), (.int .u64 3), (.int .u64 0), (.int .u64 4), (.int .u64 0), (.int .u64 2), (.int .u64 6619245)])))
noncomputable abbrev q45 : Nat × Blk := (25554, (.cells 5 true [] (T.ofList 0 .leaf [z0, z2, (iN 5), (iN 8), (iN 10)])))
noncomputable abbrev q46 : Nat × Blk := (26850, (.cells 15 true [] (T.ofList 0 .leaf [(uN 109), (uN 101), (uN 10), (uN 109), (uN 101), (uN 10), (uN 109), (uN 101), (uN 10), (uN 109), (uN 101), (uN 10), (uN 109), (uN 101), (uN 10)])))
noncomputable abbrev q47 : Nat × Blk := (10973, (.cells 3 false [] (T.ofList 0 .leaf [(pN 10971), (.so 25565 0 1 1), (.map 10972)])))
noncomputable abbrev q48 : Nat × Blk := g14317_1 (.so 24770 0 2 1) (.so 24771 0 2 1) (.so 25374 0 2 7) (iN 15)
noncomputable abbrev q49 : Nat × Blk := (14320, (.map [(tx8, (iN 7), 0), (tx7, (iN 3), 1), (tx1, (iN 57), 2)] 3))
noncomputable abbrev q50 : Nat × Blk := g14321_2 (.so 25377 0 2 1) bT (iN 2000) (iN 67) z1
noncomputable abbrev q51 : Nat × Blk := (14618, (.cells 155 false [z0, tx4, z0, z0, z0] (ofPairs [(5, z1), (6, tx3), (7, z0), (8, z0), (9, z0), (10, (iN 7)), (11, tx4), (12, z0), (13, z1), (14, z0), (15, z1), (16, tx13), (17, z0), (18, z0), (19, z0), (20, z1), (21, tx29), (22, z0), (23, z0), (24, z0), (25, (iN 12)), (26, tx4), (27, z0), (28, (iN 3)), (29, (iN 4)), (30, (iN 10)), (31, tx4), (32, z0), (33, z2), (34, (iN 5)), (35, z1), (36, tx78), (37, z0), (38, z0), (39, z0), (40, z1), (41, tx79), (42, z0), (43, z0), (44, z0), (45, z1), (46, tx83), (47, z0), (48, z0), (49, z0), (50, z1), (51, tx61), (52, z0), (53, z0), (54, z0), (55, (iN 7)), (56, tx4), (57, z0), (58, (iN 10)), (59, z0), (60, (iN 12)), (61, tx4), (62, z0), (63, (iN 8)), (64, (iN 9)), (65, (iN 9)), (66, tx4), (67, z0), (68, (iN 11)), (69, (iN 12)), (70, z1), (71, tx19), (72, z0), (73, z0), (74, z0), (75, (iN 7)), (76, tx4), (77, z0), (78, (iN 14)), (79, z0), (80, z1), (81, tx72), (82, z0), (83, z0), (84, z0), (85, z1), (86, tx25), (87, z0), (88, z0), (89, z0), (90, (iN 12)), (91, tx4), (92, z0), (93, (iN 16)), (94, (iN 17)), (95, (iN 9)), (96, tx4), (97, z0), (98, (iN 15)), (99, (iN 18)), (100, z1), (101, tx0), (102, z0), (103, z0), (104, z0), (105, (iN 7)), (106, tx4), (107, z0), (108, (iN 20)), (109, z0), (110, z1), (111, tx15), (112, z0), (113, z0), (114, z0), (115, z1), (116, tx17), (117, z0), (118, z0), (119, z0), (120, (iN 12)), (121, tx4), (122, z0), (123, (iN 22)), (124, (iN 23)), (125, (iN 10)), (126, tx4), (127, z0), (128, (iN 21)), (129, (iN 24)), (130, z1), (131, tx67), (132, z0), (133, z0), (134, z0), (135, (iN 8)), (136, tx4), (137, z0), (138, (iN 26)), (139, z0), (140, z1), (141, tx31), (142, z0), (143, z0), (144, z0), (145, z1), (146, tx10), (147, z0), (148, z0), (149, z0), (150, z1), (151, tx71), (152, z0), (153, z0), (154, z0)])))
noncomputable abbrev q52 : Nat × Blk := g21055_10 z0 (iN 21)
noncomputable abbrev q53 : Nat × Blk := g24770_4 (iN 9) (iN 9) (iN 11) (iN 11) (iN 11) (iN 11) (iN 11)
noncomputable abbrev q54 : Nat × Blk := g25374_6 (iN 14) z0 (iN 18) z0 (iN 24) z0 (iN 24) z0 (iN 24) z0 (iN 24) z0 (iN 24) z0
noncomputable abbrev q55 : Nat × Blk := g10977_0 (.so 26581 0 12 1)
noncomputable abbrev q56 : Nat × Blk := g14317_1 (.so 24770 0 4 1) (.so 24771 0 4 1) (.so 25374 0 3 7) (iN 22)
noncomputable abbrev q57 : Nat × Blk := (14320, (.map [(tx8, (iN 7), 0), (tx7, (iN 3), 1), (tx1, (iN 56), 2)] 3))
noncomputable abbrev q58 : Nat × Blk := g14321_2 (.so 25377 0 3 1) bT (iN 2000) (iN 66) z1
noncomputable abbrev q59 : Nat × Blk := g21055_10 z2 (iN 18)
noncomputable abbrev g21917_11 (x0 x1 : AV) : Nat × Blk := (21917, (.cells 6 false [] (T.ofList 0 .leaf [z2, x0, (pN 14616), z1, x1, .nilp])))
noncomputable abbrev q60 : Nat × Blk := g21917_11 z0 (iN 24)
noncomputable abbrev q61 : Nat × Blk := g25374_6 (iN 14) z0 (iN 18) z0 (iN 21) z1 (iN 24) z0 (iN 24) z0 (iN 24) z0 (iN 24) z0
noncomputable abbrev q62 : Nat × Blk := (26581, (.cells 12 true [] (T.ofList 0 .leaf [(uN 109), (uN 101), (uN 10), (uN 109), (uN 101), (uN 10), (uN 109), (uN 101), (uN 10), (uN 109), (uN 101), (uN 10)])))
noncomputable abbrev q63 : Nat × Blk := g14317_1 (.so 24770 0 3 1) (.so 24771 0 3 1) (.so 25374 0 3 7) (iN 22)
noncomputable abbrev q64 : Nat × Blk := (14320, (.map [(tx8, (iN 7), 0), (tx7, (iN 3), 1), (tx1, (iN 55), 2)] 3))
noncomputable abbrev q65 : Nat × Blk := g14321_2 (.so 25377 0 3 1) bT (iN 2000) (iN 65) z1
noncomputable abbrev q66 : Nat × Blk := g21917_11 z0 (iN 21)
noncomputable abbrev q67 : Nat × Blk := g24770_4 (iN 9) (iN 9) (iN 9) (iN 11) (iN 11) (iN 11) (iN 11)
noncomputable abbrev q68 : Nat × Blk := g25374_6 (iN 14) z0 (iN 18) z0 (iN 18) z0 (iN 24) z0 (iN 24) z0 (iN 24) z0 (iN 24) z0
noncomputable abbrev q69 : Nat × Blk := g10977_0 (.so 26312 0 9 1)
noncomputable abbrev q70 : Nat × Blk := g14317_1 (.so 24770 0 5 1) (.so 24771 0 5 1) (.so 25374 0 4 7) (iN 29)
noncomputable abbrev q71 : Nat × Blk := (14320, (.map [(tx8, (iN 7), 0), (tx7, (iN 3), 1), (tx1, (iN 54), 2)] 3))
noncomputable abbrev q72 : Nat × Blk := g14321_2 (.so 25377 0 4 1) bT (iN 2000) (iN 64) z1
noncomputable abbrev q73 : Nat × Blk := g21917_11 z2 (iN 18)
noncomputable abbrev g22780_12 (x0 x1 : AV) : Nat × Blk := (22780, (.cells 6 false [] (T.ofList 0 .leaf [z2, x0, (pN 14616), z1, x1, .nilp])))
noncomputable abbrev q74 : Nat × Blk := g22780_12 z0 (iN 24)
noncomputable abbrev q75 : Nat × Blk := g25374_6 (iN 14) z0 (iN 18) z0 (iN 18) z0 (iN 21) z1 (iN 24) z0 (iN 24) z0 (iN 24) z0
noncomputable abbrev q76 : Nat × Blk := (26312, (.cells 9 true [] (T.ofList 0 .leaf [(uN 109), (uN 101), (uN 10), (uN 109), (uN 101), (uN 10), (uN 109), (uN 101), (uN 10)])))
noncomputable abbrev q77 : Nat × Blk := g14317_1 (.so 24770 0 4 1) (.so 24771 0 4 1) (.so 25374 0 4 7) (iN 29)
noncomputable abbrev q78 : Nat × Blk := (14320, (.map [(tx8, (iN 7), 0), (tx7, (iN 3), 1), (tx1, (iN 53), 2)] 3))
noncomputable abbrev q79 : Nat × Blk := g14321_2 (.so 25377 0 4 1) bT (iN 2000) (iN 63) z1
noncomputable abbrev q80 : Nat × Blk := g22780_12 z0 (iN 21)
noncomputable abbrev q81 : Nat × Blk := g24770_4 (iN 9) (iN 9) (iN 9) (iN 9) (iN 11) (iN 11) (iN 11)
noncomputable abbrev q82 : Nat × Blk := g25374_6 (iN 14) z0 (iN 18) z0 (iN 18) z0 (iN 18) z0 (iN 24) z0 (iN 24) z0 (iN 24) z0
noncomputable abbrev q83 : Nat × Blk := g10977_0 (.so 26043 0 6 1)
noncomputable abbrev q84 : Nat × Blk := g14317_1 (.so 24770 0 6 1) (.so 24771 0 6 1) (.so 25374 0 5 7) (iN 36)
noncomputable abbrev q85 : Nat × Blk := (14320, (.map [(tx8, (iN 7), 0), (tx7, (iN 3), 1), (tx1, (iN 52), 2)] 3))
noncomputable abbrev q86 : Nat × Blk := g14321_2 (.so 25377 0 5 1) bT (iN 2000) (iN 62) z1
noncomputable abbrev q87 : Nat × Blk := g22780_12 z2 (iN 18)
noncomputable abbrev g23645_13 (x0 x1 : AV) : Nat × Blk := (23645, (.cells 6 false [] (T.ofList 0 .leaf [z2, x0, (pN 14616), z1, x1, .nilp])))
noncomputable abbrev q88 : Nat × Blk := g23645_13 z0 (iN 24)
noncomputable abbrev q89 : Nat × Blk := g25374_6 (iN 14) z0 (iN 18) z0 (iN 18) z0 (iN 18) z0 (iN 21) z1 (iN 24) z0 (iN 24) z0
noncomputable abbrev q90 : Nat × Blk := (26043, (.cells 6 true [] (T.ofList 0 .leaf [(uN 109), (uN 101), (uN 10), (uN 109), (uN 101), (uN 10)])))
noncomputable abbrev q91 : Nat × Blk := g14317_1 (.so 24770 0 5 1) (.so 24771 0 5 1) (.so 25374 0 5 7) (iN 36)
noncomputable abbrev q92 : Nat × Blk := (14320, (.map [(tx8, (iN 7), 0), (tx7, (iN 3), 1), (tx1, (iN 51), 2)] 3))
noncomputable abbrev q93 : Nat × Blk := g14321_2 (.so 25377 0 5 1) bT (iN 2000) (iN 61) z1
noncomputable abbrev q94 : Nat × Blk := g23645_13 z0 (iN 21)
noncomputable abbrev q95 : Nat × Blk := g24770_4 (iN 9) (iN 9) (iN 9) (iN 9) (iN 9) (iN 11) (iN 11)
noncomputable abbrev q96 : Nat × Blk := g25374_6 (iN 14) z0 (iN 18) z0 (iN 18) z0 (iN 18) z0 (iN 18) z0 (iN 24) z0 (iN 24) z0
noncomputable abbrev q97 : Nat × Blk := g10977_0 (.so 25774 0 3 1)
noncomputable abbrev q98 : Nat × Blk := g14317_1 (.so 24770 0 7 1) (.so 24771 0 7 1) (.so 25374 0 6 7) (iN 43)
noncomputable abbrev q99 : Nat × Blk := (14320, (.map [(tx8, (iN 7), 0), (tx7, (iN 3), 1), (tx1, (iN 50), 2)] 3))
noncomputable abbrev q100 : Nat × Blk := g14321_2 (.so 25377 0 6 1) bT (iN 2000) (iN 60) z1
noncomputable abbrev q101 : Nat × Blk := g23645_13 z2 (iN 18)
noncomputable abbrev g24510_14 (x0 x1 : AV) : Nat × Blk := (24510, (.cells 6 false [] (T.ofList 0 .leaf [z2, x0, (pN 14616), z1, x1, .nilp])))
noncomputable abbrev q102 : Nat × Blk := g24510_14 z0 (iN 24)
noncomputable abbrev q103 : Nat × Blk := g25374_6 (iN 14) z0 (iN 18) z0 (iN 18) z0 (iN 18) z0 (iN 18) z0 (iN 21) z1 (iN 24) z0
noncomputable abbrev q104 : Nat × Blk := (25774, (.cells 3 true [] (T.ofList 0 .leaf [(uN 109), (uN 101), (uN 10)])))
noncomputable abbrev q105 : Nat × Blk := g14317_1 (.so 24770 0 6 1) (.so 24771 0 6 1) (.so 25374 0 6 7) (iN 43)
noncomputable abbrev q106 : Nat × Blk := (14320, (.map [(tx8, (iN 7), 0), (tx7, (iN 3), 1), (tx1, (iN 49), 2)] 3))
noncomputable abbrev q107 : Nat × Blk := g14321_2 (.so 25377 0 6 1) bT (iN 2000) (iN 59) z1
noncomputable abbrev q108 : Nat × Blk := g24510_14 z0 (iN 21)
noncomputable abbrev q109 : Nat × Blk := g24770_4 (iN 9) (iN 9) (iN 9) (iN 9) (iN 9) (iN 9) (iN 11)
noncomputable abbrev q110 : Nat × Blk := g25374_6 (iN 14) z0 (iN 18) z0 (iN 18) z0 (iN 18) z0 (iN 18) z0 (iN 18) z0 (iN 24) z0
noncomputable abbrev q111 : Nat × Blk := g10977_0 .nils
noncomputable abbrev q112 : Nat × Blk := g14317_1 (.so 24770 0 8 1) (.so 24771 0 8 1) (.so 25374 0 7 7) (iN 50)
noncomputable abbrev q113 : Nat × Blk := (14320, (.map [(tx8, (iN 7), 0), (tx7, (iN 3), 1), (tx1, (iN 48), 2)] 3))
noncomputable abbrev q114 : Nat × Blk := g14321_2 (.so 25377 0 7 1) bT (iN 2000) (iN 58) z1
noncomputable abbrev q115 : Nat × Blk := g24510_14 z2 (iN 18)
noncomputable abbrev q116 : Nat × Blk := g25374_6 (iN 14) z0 (iN 18) z0 (iN 18) z0 (iN 18) z0 (iN 18) z0 (iN 18) z0 (iN 21) z1
noncomputable abbrev g25375_15 (x0 : AV) : Nat × Blk := (25375, (.cells 6 false [] (T.ofList 0 .leaf [z2, z0, (pN 14616), z1, x0, .nilp])))
noncomputable abbrev q117 : Nat × Blk := g25375_15 (iN 24)
noncomputable abbrev q118 : Nat × Blk := (10132, (.cells 8 false [] (T.ofList 0 .leaf [(iN 52), .nils, (iN 33), tx3, tx4, .nils, .nils, (.so 10144 0 3 9)])))
noncomputable abbrev q119 : Nat × Blk := (10970, (.map [(tx0, z0, 0), (tx9, z1, 1), (tx14, z2, 2), (tx61, (iN 3), 3)] 4))
noncomputable abbrev q120 : Nat × Blk := g10971_8 (.so 20315 0 10 1) (.so 20317 0 4 1) (.so 20314 0 4 3)
noncomputable abbrev q121 : Nat × Blk := (10973, (.cells 3 false [] (T.ofList 0 .leaf [(pN 10971), .nils, (.map 10972)])))
noncomputable abbrev q122 : Nat × Blk := g14317_1 (.so 24770 0 7 1) (.so 24771 0 7 1) (.so 25374 0 7 7) (iN 50)
noncomputable abbrev q123 : Nat × Blk := (20314, (.cells 12 true [] (T.ofList 0 .leaf [tx0, .nils, (uN 0), tx9, (.so 14440 0 1 1), (uN 0), tx14, (.so 14536 0 1 1), (uN 0), tx61, .nils, (uN 0)])))
noncomputable abbrev q124 : Nat × Blk := (20315, (.cells 10 true [] (T.ofList 0 .leaf [(.int .u64 0), (.int .u64 0), (.int .u64 1), (.int .u64 0), (.int .u64 0), (.int .u64 2), (.int .u64 0), (.int .u64 0), (.int .u64 3), (.int .u64 0)])))
noncomputable abbrev q125 : Nat × Blk := (20317, (.cells 4 true [] (T.ofList 0 .leaf [z0, z2, (iN 5), (iN 8)])))
noncomputable abbrev q126 : Nat × Blk := g24770_4 (iN 9) (iN 9) (iN 9) (iN 9) (iN 9) (iN 9) (oN 11)
noncomputable abbrev q127 : Nat × Blk := g24771_5 bT bT bF
noncomputable abbrev q128 : Nat × Blk := (14320, (.map [(tx8, (iN 7), 0), (tx7, (iN 3), 1), (tx1, (iN 45), 2)] 3))
noncomputable abbrev q129 : Nat × Blk := g14321_2 (.so 25377 0 7 1) bT (iN 2000) (iN 55) z1
noncomputable abbrev q130 : Nat × Blk := (15654, (.cells 4 true [] (T.ofList 0 .leaf [(iN 9), tx79, tx83, z0])))
noncomputable abbrev q131 : Nat × Blk := (20119, (.cells 1 false [z0] (T.ofList 0 .leaf [(oN 11)])))
noncomputable abbrev q132 : Nat × Blk := g24770_4 (iN 9) (iN 9) (iN 9) (iN 9) (iN 9) (iN 9) (iN 9)
noncomputable abbrev q133 : Nat × Blk := g25374_6 (iN 14) z0 (iN 18) z0 (iN 18) z0 (iN 18) z0 (iN 18) z0 (iN 18) z0 z0 z0
noncomputable abbrev q134 : Nat × Blk := g25375_15 z0
noncomputable abbrev q135 : Nat × Blk := (7967, (.cells 117 true [] (T.ofList 0 .leaf [z1, tx27, tx6, bF, z0, z0, .nils, .nils, .nils, z1, tx27, tx62, bF, z0, z0, .nils, .nils, .nils, z1, tx27, tx63, bF, z0, z0, .nils, .nils, .nils, z1, tx27, tx64, bF, z0, z0, .nils, .nils, .nils, z1, tx27, tx65, bF, z0, z0, .nils, .nils, .nils, z1, tx27, tx17, bF, z0, z0, .nils, .nils, .nils, z1, tx15, tx6, bF, z0, z0, .nils, .nils, .nils, z1, tx15, tx62, bF, z0, z0, .nils, .nils, .nils, z1, tx15, tx63, bF, z0, z0, .nils, .nils, .nils, z1, tx15, tx64, bF, z0, z0, .nils, .nils, .nils, z1, tx15, tx65, bF, z0, z0, .nils, .nils, .nils, z1, tx15, tx17, bF, z0, z0, .nils, .nils, .nils, z1, tx15, tx29, bF, z0, z0, .nils, .nils, .nils])))
noncomputable abbrev q136 : Nat × Blk := (10144, (.cells 27 true [] (T.ofList 0 .leaf [z1, tx13, tx29, bF, z0, z0, .nils, .nils, .nils, z1, tx69, tx38, bF, z0, z0, .nils, .nils, .nils, z1, tx31, tx10, bF, z0, z0, .nils, .nils, .nils])))
noncomputable abbrev q137 : Nat × Blk := g14317_1 (.so 24770 0 8 1) (.so 24771 0 8 1) (.so 24509 0 6 7) (iN 43)
noncomputable abbrev q138 : Nat × Blk := (14319, (.map [(tx66, z0, 0), (tx61, z1, 1)] 2))
noncomputable abbrev q139 : Nat × Blk := (14320, (.map [(tx8, (iN 7), 0), (tx7, (iN 3), 1), (tx1, (iN 44), 2)] 3))
noncomputable abbrev q140 : Nat × Blk := g14321_2 (.so 24512 0 6 1) bT (iN 2000) (iN 54) z1
noncomputable abbrev g24509_16 (x0 x1 : AV) : Nat × Blk := (24509, (.cells 42 true [] (T.ofList 0 .leaf [z0, z0, (iN 14), z0, z1, (iN 3), z0, z1, z1, (iN 18), z1, z1, z2, z0, z1, z1, (iN 18), z2, z1, z2, z0, z1, z1, (iN 18), (iN 3), z1, z2, z0, z1, z1, (iN 18), (iN 4), z1, z2, z0, z1, z1, x0, (iN 5), z1, z2, x1])))
noncomputable abbrev q141 : Nat × Blk := g24509_16 (iN 17) z2
noncomputable abbrev q142 : Nat × Blk := g24510_14 z0 (iN 18)
noncomputable abbrev q143 : Nat × Blk := (24512, (.cells 6 true [] (T.ofList 0 .leaf [(pN 18708), (pN 21055), (pN 21917), (pN 22780), (pN 23645), (pN 24510)])))
noncomputable abbrev q144 : Nat × Blk := g24770_4 (iN 9) (iN 9) (iN 9) (iN 9) (iN 9) z1 (iN 9)
noncomputable abbrev q145 : Nat × Blk := g14317_1 (.so 24770 0 7 1) (.so 24771 0 7 1) (.so 24509 0 6 7) (iN 43)
noncomputable abbrev q146 : Nat × Blk := (14320, (.map [(tx8, (iN 7), 0), (tx7, (iN 3), 1), (tx1, (iN 43), 2)] 3))
noncomputable abbrev q147 : Nat × Blk := g14321_2 (.so 24512 0 6 1) bT (iN 2000) (iN 53) z1
noncomputable abbrev q148 : Nat × Blk := g24509_16 (iN 14) z1
noncomputable abbrev q149 : Nat × Blk := g24510_14 z0 (iN 17)
noncomputable abbrev q150 : Nat × Blk := g24770_4 (iN 9) (iN 9) (iN 9) (iN 9) (iN 9) z1 z1
noncomputable abbrev q151 : Nat × Blk := (10672, (.cells 8 false [] (T.ofList 0 .leaf [(iN 52), .nils, (iN 49), tx19, tx3, .nils, (.sl 10678 0 1 1), (.so 10677 0 1 9)])))
noncomputable abbrev q152 : Nat × Blk := (10678, (.cells 4 false [] (T.ofList 0 .leaf [(iN 25), tx72, tx25, z0])))
noncomputable abbrev q153 : Nat × Blk := g24771_5 bT bF bF
noncomputable abbrev q154 : Nat × Blk := g14317_1 (.so 23905 0 7 1) (.so 23906 0 7 1) (.so 24509 0 6 7) (iN 43)
noncomputable abbrev q155 : Nat × Blk := (14320, (.map [(tx8, (iN 7), 0), (tx7, (iN 3), 1), (tx1, (iN 39), 2)] 3))
noncomputable abbrev q156 : Nat × Blk := g14321_2 (.so 24512 0 6 1) bT (iN 2000) (iN 49) z1
noncomputable abbrev g23905_17 (x0 x1 : AV) : Nat × Blk := (23905, (.cells 7 true [] (T.ofList 0 .leaf [(oN 1), (iN 9), (iN 9), (iN 9), (iN 9), x0, x1])))
noncomputable abbrev q157 : Nat × Blk := g23905_17 (iN 9) (oN 9)
noncomputable abbrev g23906_18 (x0 x1 : AV) : Nat × Blk := (23906, (.cells 7 true [] (T.ofList 0 .leaf [bF, bT, bT, bT, bT, x0, x1])))
noncomputable abbrev q158 : Nat × Blk := g23906_18 bT bF
noncomputable abbrev q159 : Nat × Blk := g24509_16 (iN 6) z1
noncomputable abbrev q160 : Nat × Blk := g24510_14 z0 (iN 9)
noncomputable abbrev q161 : Nat × Blk := g14317_1 (.so 23905 0 6 1) (.so 23906 0 6 1) (.so 24509 0 6 7) (iN 43)
noncomputable abbrev q162 : Nat × Blk := (14320, (.map [(tx8, (iN 7), 0), (tx7, (iN 3), 1), (tx1, (iN 36), 2)] 3))
noncomputable abbrev q163 : Nat × Blk := g14321_2 (.so 24512 0 6 1) bT (iN 2000) (iN 46) z1
noncomputable abbrev q164 : Nat × Blk := g23905_17 (iN 9) (iN 9)
noncomputable abbrev q165 : Nat × Blk := g23906_18 bT bT
noncomputable abbrev q166 : Nat × Blk := g24509_16 z0 z0
noncomputable abbrev q167 : Nat × Blk := g24510_14 z0 z0
noncomputable abbrev q168 : Nat × Blk := g14317_1 (.so 23905 0 7 1) (.so 23906 0 7 1) (.so 23644 0 5 7) (iN 36)
noncomputable abbrev q169 : Nat × Blk := (14320, (.map [(tx8, (iN 7), 0), (tx7, (iN 3), 1), (tx1, (iN 35), 2)] 3))
noncomputable abbrev q170 : Nat × Blk := g14321_2 (.so 23647 0 5 1) bT (iN 2000) (iN 45) z1
noncomputable abbrev g23644_19 (x0 x1 : AV) : Nat × Blk := (23644, (.cells 35 true [] (T.ofList 0 .leaf [z0, z0, (iN 14), z0, z1, (iN 3), z0, z1, z1, (iN 18), z1, z1, z2, z0, z1, z1, (iN 18), z2, z1, z2, z0, z1, z1, (iN 18), (iN 3), z1, z2, z0, z1, z1, x0, (iN 4), z1, z2, x1])))
noncomputable abbrev q171 : Nat × Blk := g23644_19 (iN 17) z2
noncomputable abbrev q172 : Nat × Blk := g23645_13 z0 (iN 18)
noncomputable abbrev q173 : Nat × Blk := (23647, (.cells 5 true [] (T.ofList 0 .leaf [(pN 18708), (pN 21055), (pN 21917), (pN 22780), (pN 23645)])))
noncomputable abbrev q174 : Nat × Blk := g23905_17 z1 (iN 9)
noncomputable abbrev q175 : Nat × Blk := g14317_1 (.so 23905 0 6 1) (.so 23906 0 6 1) (.so 23644 0 5 7) (iN 36)
noncomputable abbrev q176 : Nat × Blk := (14320, (.map [(tx8, (iN 7), 0), (tx7, (iN 3), 1), (tx1, (iN 34), 2)] 3))
noncomputable abbrev q177 : Nat × Blk := g14321_2 (.so 23647 0 5 1) bT (iN 2000) (iN 44) z1
noncomputable abbrev q178 : Nat × Blk := g23644_19 (iN 14) z1
noncomputable abbrev q179 : Nat × Blk := g23645_13 z0 (iN 17)
noncomputable abbrev q180 : Nat × Blk := g23905_17 z1 z1
noncomputable abbrev q181 : Nat × Blk := g23906_18 bF bF
noncomputable abbrev q182 : Nat × Blk := g14317_1 (.so 23040 0 6 1) (.so 23041 0 6 1) (.so 23644 0 5 7) (iN 36)
noncomputable abbrev q183 : Nat × Blk := (14320, (.map [(tx8, (iN 7), 0), (tx7, (iN 3), 1), (tx1, (iN 30), 2)] 3))
noncomputable abbrev q184 : Nat × Blk := g14321_2 (.so 23647 0 5 1) bT (iN 2000) (iN 40) z1
noncomputable abbrev g23040_20 (x0 x1 : AV) : Nat × Blk := (23040, (.cells 6 true [] (T.ofList 0 .leaf [(oN 1), (iN 9), (iN 9), (iN 9), x0, x1])))
noncomputable abbrev q185 : Nat × Blk := g23040_20 (iN 9) (oN 7)
noncomputable abbrev g23041_21 (x0 x1 : AV) : Nat × Blk := (23041, (.cells 6 true [] (T.ofList 0 .leaf [bF, bT, bT, bT, x0, x1])))
noncomputable abbrev q186 : Nat × Blk := g23041_21 bT bF
noncomputable abbrev q187 : Nat × Blk := g23644_19 (iN 6) z1
noncomputable abbrev q188 : Nat × Blk := g23645_13 z0 (iN 9)
noncomputable abbrev q189 : Nat × Blk := g14317_1 (.so 23040 0 5 1) (.so 23041 0 5 1) (.so 23644 0 5 7) (iN 36)
noncomputable abbrev q190 : Nat × Blk := (14320, (.map [(tx8, (iN 7), 0), (tx7, (iN 3), 1), (tx1, (iN 27), 2)] 3))
noncomputable abbrev q191 : Nat × Blk := g14321_2 (.so 23647 0 5 1) bT (iN 2000) (iN 37) z1
noncomputable abbrev q192 : Nat × Blk := g23040_20 (iN 9) (iN 9)
noncomputable abbrev q193 : Nat × Blk := g23041_21 bT bT
noncomputable abbrev q194 : Nat × Blk := g23644_19 z0 z0
noncomputable abbrev q195 : Nat × Blk := g23645_13 z0 z0
noncomputable abbrev q196 : Nat × Blk := g14317_1 (.so 23040 0 6 1) (.so 23041 0 6 1) (.so 22779 0 4 7) (iN 29)
noncomputable abbrev q197 : Nat × Blk := (14320, (.map [(tx8, (iN 7), 0), (tx7, (iN 3), 1), (tx1, (iN 26), 2)] 3))
noncomputable abbrev q198 : Nat × Blk := g14321_2 (.so 22782 0 4 1) bT (iN 2000) (iN 36) z1
noncomputable abbrev g22779_22 (x0 x1 : AV) : Nat × Blk := (22779, (.cells 28 true [] (T.ofList 0 .leaf [z0, z0, (iN 14), z0, z1, (iN 3), z0, z1, z1, (iN 18), z1, z1, z2, z0, z1, z1, (iN 18), z2, z1, z2, z0, z1, z1, x0, (iN 3), z1, z2, x1])))
noncomputable abbrev q199 : Nat × Blk := g22779_22 (iN 17) z2
noncomputable abbrev q200 : Nat × Blk := g22780_12 z0 (iN 18)
noncomputable abbrev q201 : Nat × Blk := (22782, (.cells 4 true [] (T.ofList 0 .leaf [(pN 18708), (pN 21055), (pN 21917), (pN 22780)])))
noncomputable abbrev q202 : Nat × Blk := g23040_20 z1 (iN 9)
noncomputable abbrev q203 : Nat × Blk := g14317_1 (.so 23040 0 5 1) (.so 23041 0 5 1) (.so 22779 0 4 7) (iN 29)
noncomputable abbrev q204 : Nat × Blk := (14320, (.map [(tx8, (iN 7), 0), (tx7, (iN 3), 1), (tx1, (iN 25), 2)] 3))
noncomputable abbrev q205 : Nat × Blk := g14321_2 (.so 22782 0 4 1) bT (iN 2000) (iN 35) z1
noncomputable abbrev q206 : Nat × Blk := g22779_22 (iN 14) z1
noncomputable abbrev q207 : Nat × Blk := g22780_12 z0 (iN 17)
noncomputable abbrev q208 : Nat × Blk := g23040_20 z1 z1
noncomputable abbrev q209 : Nat × Blk := g23041_21 bF bF
noncomputable abbrev q210 : Nat × Blk := g14317_1 (.so 20509 0 5 1) (.so 20510 0 5 1) (.so 22779 0 4 7) (iN 29)
noncomputable abbrev q211 : Nat × Blk := (14320, (.map [(tx8, (iN 7), 0), (tx7, (iN 3), 1), (tx1, (iN 21), 2)] 3))
noncomputable abbrev q212 : Nat × Blk := g14321_2 (.so 22782 0 4 1) bT (iN 2000) (iN 31) z1
noncomputable abbrev g20509_23 (x0 x1 x2 x3 : AV) : Nat × Blk := (20509, (.cells 5 true [] (T.ofList 0 .leaf [(oN 1), x0, x1, x2, x3])))
noncomputable abbrev q213 : Nat × Blk := g20509_23 (iN 9) (iN 9) (iN 9) (oN 5)
noncomputable abbrev g20510_24 (x0 x1 x2 : AV) : Nat × Blk := (20510, (.cells 5 true [] (T.ofList 0 .leaf [bF, bT, x0, x1, x2])))
noncomputable abbrev q214 : Nat × Blk := g20510_24 bT bT bF
noncomputable abbrev q215 : Nat × Blk := g22779_22 (iN 6) z1
noncomputable abbrev q216 : Nat × Blk := g22780_12 z0 (iN 9)
noncomputable abbrev q217 : Nat × Blk := g14317_1 (.so 20509 0 4 1) (.so 20510 0 4 1) (.so 22779 0 4 7) (iN 29)
noncomputable abbrev q218 : Nat × Blk := (14320, (.map [(tx8, (iN 7), 0), (tx7, (iN 3), 1), (tx1, (iN 18), 2)] 3))
noncomputable abbrev q219 : Nat × Blk := g14321_2 (.so 22782 0 4 1) bT (iN 2000) (iN 28) z1
noncomputable abbrev q220 : Nat × Blk := g20509_23 (iN 9) (iN 9) (iN 9) (iN 9)
noncomputable abbrev q221 : Nat × Blk := g20510_24 bT bT bT
noncomputable abbrev q222 : Nat × Blk := g22779_22 z0 z0
noncomputable abbrev q223 : Nat × Blk := g22780_12 z0 z0
noncomputable abbrev q224 : Nat × Blk := g14317_1 (.so 20509 0 5 1) (.so 20510 0 5 1) (.so 21916 0 3 7) (iN 22)
noncomputable abbrev q225 : Nat × Blk := (14320, (.map [(tx8, (iN 7), 0), (tx7, (iN 3), 1), (tx1, (iN 17), 2)] 3))
noncomputable abbrev q226 : Nat × Blk := g14321_2 (.so 21919 0 3 1) bT (iN 2000) (iN 27) z1
noncomputable abbrev q227 : Nat × Blk := g20509_23 (iN 9) (iN 9) z1 (iN 9)
noncomputable abbrev g21916_25 (x0 x1 : AV) : Nat × Blk := (21916, (.cells 21 true [] (T.ofList 0 .leaf [z0, z0, (iN 14), z0, z1, (iN 3), z0, z1, z1, (iN 18), z1, z1, z2, z0, z1, z1, x0, z2, z1, z2, x1])))
noncomputable abbrev q228 : Nat × Blk := g21916_25 (iN 17) z2
noncomputable abbrev q229 : Nat × Blk := g21917_11 z0 (iN 18)
noncomputable abbrev q230 : Nat × Blk := (21919, (.cells 3 true [] (T.ofList 0 .leaf [(pN 18708), (pN 21055), (pN 21917)])))
noncomputable abbrev q231 : Nat × Blk := g14317_1 (.so 20509 0 4 1) (.so 20510 0 4 1) (.so 21916 0 3 7) (iN 22)
noncomputable abbrev q232 : Nat × Blk := (14320, (.map [(tx8, (iN 7), 0), (tx7, (iN 3), 1), (tx1, (iN 16), 2)] 3))
noncomputable abbrev q233 : Nat × Blk := g14321_2 (.so 21919 0 3 1) bT (iN 2000) (iN 26) z1
noncomputable abbrev q234 : Nat × Blk := g20509_23 (iN 9) (iN 9) z1 z1
noncomputable abbrev q235 : Nat × Blk := g21916_25 (iN 14) z1
noncomputable abbrev q236 : Nat × Blk := g21917_11 z0 (iN 17)
noncomputable abbrev q237 : Nat × Blk := g14317_1 (.so 20509 0 3 1) (.so 20510 0 3 1) (.so 21916 0 3 7) (iN 22)
noncomputable abbrev q238 : Nat × Blk := g20510_24 bT bF bF
noncomputable abbrev q239 : Nat × Blk := (14320, (.map [(tx8, (iN 7), 0), (tx7, (iN 3), 1), (tx1, (iN 12), 2)] 3))
noncomputable abbrev q240 : Nat × Blk := g14321_2 (.so 21919 0 3 1) bT (iN 2000) (iN 22) z1
noncomputable abbrev q241 : Nat × Blk := g20509_23 (iN 9) (iN 9) (oN 3) (iN 9)
noncomputable abbrev q242 : Nat × Blk := g20510_24 bT bF bT
noncomputable abbrev q243 : Nat × Blk := g21916_25 (iN 6) z1
noncomputable abbrev q244 : Nat × Blk := g21917_11 z0 (iN 9)
noncomputable abbrev q245 : Nat × Blk := (14320, (.map [(tx8, (iN 7), 0), (tx7, (iN 3), 1), (tx1, (iN 9), 2)] 3))
noncomputable abbrev q246 : Nat × Blk := g14321_2 (.so 21919 0 3 1) bT (iN 2000) (iN 19) z1
noncomputable abbrev q247 : Nat × Blk := g21916_25 z0 z0
noncomputable abbrev q248 : Nat × Blk := g21917_11 z0 z0
noncomputable abbrev q249 : Nat × Blk := g14317_1 (.so 20509 0 4 1) (.so 20510 0 4 1) (.so 20477 0 2 7) (iN 15)
noncomputable abbrev q250 : Nat × Blk := (14320, (.map [(tx8, (iN 7), 0), (tx7, (iN 3), 1), (tx1, (iN 8), 2)] 3))
noncomputable abbrev q251 : Nat × Blk := g14321_2 (.so 20480 0 2 1) bT (iN 2000) (iN 18) z1
noncomputable abbrev g20477_26 (x0 x1 x2 x3 x4 x5 x6 : AV) : Nat × Blk := (20477, (.cells 14 true [] (T.ofList 0 .leaf [z0, z0, x0, z0, z1, (iN 3), x1, z1, x2, x3, x4, z1, x5, x6])))
noncomputable abbrev q252 : Nat × Blk := g20477_26 (iN 14) z0 z1 (iN 17) z1 z2 z2
noncomputable abbrev q253 : Nat × Blk := (20480, (.cells 2 true [] (T.ofList 0 .leaf [(pN 18708), (pN 21055)])))
noncomputable abbrev q254 : Nat × Blk := g20509_23 (iN 9) z1 (iN 9) (iN 9)
noncomputable abbrev q255 : Nat × Blk := g21055_10 z0 (iN 18)
noncomputable abbrev q256 : Nat × Blk := g14317_1 (.so 20509 0 3 1) (.so 20510 0 3 1) (.so 20477 0 2 7) (iN 15)
noncomputable abbrev q257 : Nat × Blk := (14320, (.map [(tx8, (iN 7), 0), (tx7, (iN 3), 1), (tx1, (iN 7), 2)] 3))
noncomputable abbrev q258 : Nat × Blk := g14321_2 (.so 20480 0 2 1) bT (iN 2000) (iN 17) z1
noncomputable abbrev q259 : Nat × Blk := g20477_26 (iN 14) z0 z1 (iN 14) z1 z2 z1
noncomputable abbrev q260 : Nat × Blk := g20509_23 (iN 9) z1 z1 (iN 9)
noncomputable abbrev q261 : Nat × Blk := g21055_10 z0 (iN 17)
noncomputable abbrev q262 : Nat × Blk := g14317_1 (.so 20509 0 2 1) (.so 20510 0 2 1) (.so 20477 0 2 7) (iN 15)
noncomputable abbrev q263 : Nat × Blk := g20510_24 bF bF bT
noncomputable abbrev q264 : Nat × Blk := (14320, (.map [(tx8, (iN 7), 0), (tx7, (iN 3), 1), (tx1, (iN 3), 2)] 3))
noncomputable abbrev q265 : Nat × Blk := g14321_2 (.so 20480 0 2 1) bT (iN 2000) (iN 13) z1
noncomputable abbrev q266 : Nat × Blk := g20477_26 (iN 14) z0 z1 (iN 6) z1 z2 z1
noncomputable abbrev q267 : Nat × Blk := g20509_23 (iN 9) (oN 1) (iN 9) (iN 9)
noncomputable abbrev q268 : Nat × Blk := g20510_24 bF bT bT
noncomputable abbrev q269 : Nat × Blk := g21055_10 z0 (iN 9)
noncomputable abbrev q270 : Nat × Blk := (14320, (.map [(tx8, (iN 7), 0), (tx7, (iN 3), 1)] 2))
noncomputable abbrev q271 : Nat × Blk := g14321_2 (.so 20480 0 2 1) bT (iN 2000) (iN 10) z1
noncomputable abbrev q272 : Nat × Blk := g20477_26 (iN 14) z0 z1 z0 z1 z2 z0
noncomputable abbrev q273 : Nat × Blk := g21055_10 z0 z0
noncomputable abbrev q274 : Nat × Blk := g14317_1 (.so 20509 0 3 1) (.so 20510 0 3 1) (.so 20477 0 1 7) (iN 8)
noncomputable abbrev q275 : Nat × Blk := (14320, (.map [(tx8, (iN 6), 0), (tx7, (iN 3), 1)] 2))
noncomputable abbrev q276 : Nat × Blk := g14321_2 (.so 20480 0 1 1) bT (iN 2000) (iN 9) z1
noncomputable abbrev q277 : Nat × Blk := g18708_3 z0 (iN 14)
noncomputable abbrev q278 : Nat × Blk := g20477_26 (iN 11) z2 z0 (iN 4) (iN 3) z1 z0
noncomputable abbrev q279 : Nat × Blk := (20480, (.cells 2 true [] (T.ofList 0 .leaf [(pN 18708), (pN 20478)])))
noncomputable abbrev q280 : Nat × Blk := g20509_23 z1 (iN 9) (iN 9) (iN 9)
noncomputable abbrev q281 : Nat × Blk := g14317_1 (.so 20509 0 4 1) (.so 20510 0 4 1) (.so 20477 0 2 7) (iN 14)
noncomputable abbrev q282 : Nat × Blk := (14320, (.map [(tx8, (iN 6), 0), (tx7, z2, 1)] 2))
noncomputable abbrev q283 : Nat × Blk := g14321_2 (.so 20480 0 2 1) bT (iN 2000) (iN 8) z1
noncomputable abbrev q284 : Nat × Blk := (15674, (.cells 5 true [] (T.ofList 0 .leaf [(uN 42), (uN 183), (uN 0), (uN 6), (uN 177)])))
noncomputable abbrev q285 : Nat × Blk := g18708_3 z2 (iN 11)
noncomputable abbrev q286 : Nat × Blk := g20477_26 (iN 11) z2 z0 z1 (iN 3) z1 z0
noncomputable abbrev g20478_27 (x0 : AV) : Nat × Blk := (20478, (.cells 6 false [] (T.ofList 0 .leaf [z0, z0, (pN 14616), z0, x0, .nilp])))
noncomputable abbrev q287 : Nat × Blk := g20478_27 (iN 4)
noncomputable abbrev q288 : Nat × Blk := g14317_1 (.so 20509 0 5 1) (.so 20510 0 5 1) (.so 20477 0 2 7) (iN 14)
noncomputable abbrev q289 : Nat × Blk := (14320, (.map [(tx8, (iN 6), 0), (tx7, z1, 1)] 2))
noncomputable abbrev q290 : Nat × Blk := g14321_2 (.so 20480 0 2 1) bT (iN 2000) (iN 7) z1
noncomputable abbrev q291 : Nat × Blk := g20477_26 (iN 11) z2 z0 z0 (iN 3) z1 z1
noncomputable abbrev q292 : Nat × Blk := g20478_27 z1
noncomputable abbrev q293 : Nat × Blk := g14317_1 (.so 20385 0 4 1) (.so 20386 0 4 1) (.so 20477 0 2 7) (iN 14)
noncomputable abbrev q294 : Nat × Blk := (14320, (.map [(tx8, (iN 6), 0)] 1))
noncomputable abbrev q295 : Nat × Blk := g14321_2 (.so 20480 0 2 1) bT (iN 2000) (iN 6) z1
noncomputable abbrev q296 : Nat × Blk := (20385, (.cells 4 true [] (T.ofList 0 .leaf [(oN 1), z1, (iN 9), (iN 9)])))
noncomputable abbrev q297 : Nat × Blk := (20386, (.cells 4 true [] (T.ofList 0 .leaf [bF, bT, bT, bT])))
noncomputable abbrev q298 : Nat × Blk := g20477_26 (iN 11) z2 z0 z0 (iN 3) z1 z0
noncomputable abbrev q299 : Nat × Blk := g20478_27 z0
noncomputable abbrev q300 : Nat × Blk := g14317_1 (.so 20385 0 4 1) (.so 20386 0 4 1) (.so 18705 0 1 7) (iN 8)
noncomputable abbrev q301 : Nat × Blk := (14320, (.map [(tx8, (iN 5), 0)] 1))
noncomputable abbrev q302 : Nat × Blk := g14321_2 (.so 18710 0 1 1) bT (iN 2000) (iN 5) z1
noncomputable abbrev g18705_28 (x0 x1 : AV) : Nat × Blk := (18705, (.cells 7 true [] (T.ofList 0 .leaf [z0, z0, x0, z0, z1, (iN 3), x1])))
noncomputable abbrev q303 : Nat × Blk := g18705_28 (iN 10) (iN 3)
noncomputable abbrev q304 : Nat × Blk := g18708_3 z0 (iN 11)
noncomputable abbrev q305 : Nat × Blk := g14317_1 (.so 20320 0 3 1) (.so 20321 0 3 1) (.so 18705 0 1 7) (iN 8)
noncomputable abbrev q306 : Nat × Blk := (14320, (.map [(tx8, (iN 4), 0)] 1))
noncomputable abbrev q307 : Nat × Blk := g14321_2 (.so 18710 0 1 1) bT (iN 2000) (iN 4) z1
noncomputable abbrev q308 : Nat × Blk := g18705_28 (iN 7) z2
noncomputable abbrev q309 : Nat × Blk := g18708_3 z0 (iN 10)
noncomputable abbrev q310 : Nat × Blk := (20320, (.cells 3 true [] (T.ofList 0 .leaf [(oN 1), z1, (iN 9)])))
noncomputable abbrev q311 : Nat × Blk := (20321, (.cells 3 true [] (T.ofList 0 .leaf [bF, bT, bT])))
noncomputable abbrev q312 : Nat × Blk := (10970, (.map [(tx0, z0, 0), (tx9, z1, 1), (tx14, z2, 2)] 3))
noncomputable abbrev q313 : Nat × Blk := g10971_8 (.so 14539 0 8 1) (.so 14541 0 3 1) (.so 14538 0 3 3)
noncomputable abbrev q314 : Nat × Blk := g14317_1 (.so 18730 0 2 1) (.so 18731 0 2 1) (.so 18705 0 1 7) (iN 8)
noncomputable abbrev q315 : Nat × Blk := (14320, (.map [(tx8, (iN 3), 0)] 1))
noncomputable abbrev q316 : Nat × Blk := g14321_2 (.so 18710 0 1 1) bT (iN 2000) (iN 3) z1
noncomputable abbrev q317 : Nat × Blk := (14538, (.cells 9 true [] (T.ofList 0 .leaf [tx0, .nils, (uN 0), tx9, (.so 14440 0 1 1), (uN 0), tx14, (.so 14536 0 1 1), (uN 0)])))
noncomputable abbrev q318 : Nat × Blk := (14539, (.cells 8 true [] (T.ofList 0 .leaf [(.int .u64 0), (.int .u64 0), (.int .u64 1), (.int .u64 0), (.int .u64 0), (.int .u64 2), (.int .u64 0), (.int .u64 0)])))
noncomputable abbrev q319 : Nat × Blk := (14541, (.cells 3 true [] (T.ofList 0 .leaf [z0, z2, (iN 5)])))
noncomputable abbrev q320 : Nat × Blk := g18705_28 (iN 4) z1
noncomputable abbrev q321 : Nat × Blk := g18708_3 z0 (iN 7)
noncomputable abbrev q322 : Nat × Blk := (18730, (.cells 2 true [] (T.ofList 0 .leaf [(oN 1), z1])))
noncomputable abbrev q323 : Nat × Blk := (18731, (.cells 2 true [] (T.ofList 0 .leaf [bF, bT])))
noncomputable abbrev q324 : Nat × Blk := (18731, (.cells 2 true [] (T.ofList 0 .leaf [bF, bF])))
noncomputable abbrev q325 : Nat × Blk := (16324, (.cells 3 true [] (T.ofList 0 .leaf [(iN 7), tx4, (iN 11)])))
noncomputable abbrev g5_29 (x0 : AV) : Nat × Blk := (5, (.cells 4 true [] (T.ofList 0 .leaf [x0, tx4, z0, (uN 0)])))
noncomputable abbrev q326 : Nat × Blk := g5_29 (uN 73)
noncomputable abbrev q327 : Nat × Blk := (16428, (.cells 290 true [] (T.ofList 0 .leaf [(uN 0), (uN 30), (uN 1), (uN 0), (uN 1), (uN 65), (uN 7), (uN 0), (uN 1), (uN 1), (uN 0), (uN 1), (uN 110), (uN 1), (uN 0), (uN 1), (uN 73), (uN 12), (uN 0), (uN 3), (uN 0), (uN 4), (uN 9), (uN 0), (uN 2), (uN 0), (uN 5), (uN 1), (uN 0), (uN 16), (uN 106), (uN 97), (uN 118), (uN 97), (uN 47), (uN 108), (uN 97), (uN 110), (uN 103), (uN 47), (uN 83), (uN 121), (uN 115), (uN 116), (uN 101), (uN 109), (uN 7), (uN 0), (uN 7), (uN 1), (uN 0), (uN 3), (uN 111), (uN 117), (uN 116), (uN 1), (uN 0), (uN 21), (uN 76), (uN 106), (uN 97), (uN 118), (uN 97), (uN 47), (uN 105), (uN 111), (uN 47), (uN 80), (uN 114), (uN 105), (uN 110), (uN 116), (uN 83), (uN 116), (uN 114), (uN 101), (uN 97), (uN 109), (uN 59), (uN 12), (uN 0), (uN 9), (uN 0), (uN 10), (uN 9), (uN 0), (uN 8), (uN 0), (uN 11), (uN 1), (uN 0), (uN 6), (uN 60), (uN 105), (uN 110), (uN 105), (uN 116), (uN 62), (uN 1), (uN 0), (uN 3), (uN 40), (uN 41), (uN 86), (uN 12), (uN 0), (uN 13), (uN 0), (uN 14), (uN 10), (uN 0), (uN 2), (uN 0), (uN 15), (uN 1), (uN 0), (uN 19), (uN 106), (uN 97), (uN 118), (uN 97), (uN 47), (uN 105), (uN 111), (uN 47), (uN 80), (uN 114), (uN 105), (uN 110), (uN 116), (uN 83), (uN 116), (uN 114), (uN 101), (uN 97), (uN 109), (uN 7), (uN 0), (uN 17), (uN 1), (uN 0), (uN 7), (uN 112), (uN 114), (uN 105), (uN 110), (uN 116), (uN 108), (uN 110), (uN 1), (uN 0), (uN 21), (uN 40), (uN 76), (uN 106), (uN 97), (uN 118), (uN 97), (uN 47), (uN 108), (uN 97), (uN 110), (uN 103), (uN 47), (uN 79), (uN 98), (uN 106), (uN 101), (uN 99), (uN 116), (uN 59), (uN 41), (uN 86), (uN 12), (uN 0), (uN 19), (uN 0), (uN 20), (uN 10), (uN 0), (uN 18), (uN 0), (uN 21), (uN 1), (uN 0), (uN 2), (uN 103), (uN 111), (uN 1), (uN 0), (uN 4), (uN 40), (uN 73), (uN 41), (uN 73), (uN 1), (uN 0), (uN 4), (uN 67), (uN 111), (uN 100), (uN 101), (uN 1), (uN 0), (uN 1), (uN 77), (uN 7), (uN 0), (uN 26), (uN 1), (uN 0), (uN 16), (uN 106), (uN 97), (uN 118), (uN 97), (uN 47), (uN 108), (uN 97), (uN 110), (uN 103), (uN 47), (uN 79), (uN 98), (uN 106), (uN 101), (uN 99), (uN 116), (uN 7), (uN 0), (uN 28), (uN 0), (uN 33), (uN 0), (uN 27), (uN 0), (uN 29), (uN 0), (uN 0), (uN 0), (uN 0), (uN 0), (uN 1), (uN 0), (uN 9), (uN 0), (uN 23), (uN 0), (uN 24), (uN 0), (uN 1), (uN 0), (uN 25), (uN 0), (uN 0), (uN 0), (uN 31), (uN 0), (uN 3), (uN 0), (uN 1), (uN 0), (uN 0), (uN 0), (uN 19), (uN 26), (uN 179), (uN 0), (uN 6), (uN 178), (uN 0), (uN 12), (uN 187), (uN 0), (uN 2), (uN 89), (uN 183), (uN 0), (uN 16), (uN 182), (uN 0), (uN 22), (uN 3), (uN 172), (uN 0), (uN 0), (uN 0), (uN 0), (uN 0), (uN 0)])))
noncomputable abbrev q328 : Nat × Blk := (16429, (.cells 3 false [] (T.ofList 0 .leaf [(.so 16428 0 290 1), z0, bF])))
noncomputable abbrev q329 : Nat × Blk := (16431, (.cells 3 false [] (T.ofList 0 .leaf [(pN 16429), (pN 16430), bF])))
noncomputable abbrev q330 : Nat × Blk := (14614, (.cells 392 true [] (T.ofList 0 .leaf [(uN 0), (uN 31), (uN 1), (uN 0), (uN 16), (uN 106), (uN 97), (uN 118), (uN 97), (uN 47), (uN 108), (uN 97), (uN 110), (uN 103), (uN 47), (uN 79), (uN 98), (uN 106), (uN 101), (uN 99), (uN 116), (uN 7), (uN 0), (uN 1), (uN 1), (uN 0), (uN 6), (uN 60), (uN 105), (uN 110), (uN 105), (uN 116), (uN 62), (uN 1), (uN 0), (uN 3), (uN 40), (uN 41), (uN 86), (uN 12), (uN 0), (uN 3), (uN 0), (uN 4), (uN 10), (uN 0), (uN 2), (uN 0), (uN 5), (uN 1), (uN 0), (uN 4), (uN 67), (uN 111), (uN 100), (uN 101), (uN 1), (uN 0), (uN 1), (uN 110), (uN 1), (uN 0), (uN 1), (uN 73), (uN 1), (uN 0), (uN 1), (uN 65), (uN 7), (uN 0), (uN 10), (uN 12), (uN 0), (uN 8), (uN 0), (uN 9), (uN 9), (uN 0), (uN 11), (uN 0), (uN 12), (uN 1), (uN 0), (uN 16), (uN 106), (uN 97), (uN 118), (uN 97), (uN 47), (uN 108), (uN 97), (uN 110), (uN 103), (uN 47), (uN 83), (uN 121), (uN 115), (uN 116), (uN 101), (uN 109), (uN 7), (uN 0), (uN 14), (uN 1), (uN 0), (uN 3), (uN 111), (uN 117), (uN 116), (uN 1), (uN 0), (uN 21), (uN 76), (uN 106), (uN 97), (uN 118), (uN 97), (uN 47), (uN 105), (uN 111), (uN 47), (uN 80), (uN 114), (uN 105), (uN 110), (uN 116), (uN 83), (uN 116), (uN 114), (uN 101), (uN 97), (uN 109), (uN 59), (uN 12), (uN 0), (uN 16), (uN 0), (uN 17), (uN 9), (uN 0), (uN 15), (uN 0), (uN 18), (uN 1), (uN 0), (uN 19), (uN 106), (uN 97), (uN 118), (uN 97), (uN 47), (uN 105), (uN 111), (uN 47), (uN 80), (uN 114), (uN 105), (uN 110), (uN 116), (uN 83), (uN 116), (uN 114), (uN 101), (uN 97), (uN 109), (uN 7), (uN 0), (uN 20), (uN 1), (uN 0), (uN 7), (uN 112), (uN 114), (uN 105), (uN 110), (uN 116), (uN 108), (uN 110), (uN 1), (uN 0), (uN 21), (uN 40), (uN 76), (uN 106), (uN 97), (uN 118), (uN 97), (uN 47), (uN 108), (uN 97), (uN 110), (uN 103), (uN 47), (uN 79), (uN 98), (uN 106), (uN 101), (uN 99), (uN 116), (uN 59), (uN 41), (uN 86), (uN 12), (uN 0), (uN 22), (uN 0), (uN 23), (uN 10), (uN 0), (uN 21), (uN 0), (uN 24), (uN 1), (uN 0), (uN 2), (uN 109), (uN 101), (uN 8), (uN 0), (uN 26), (uN 1), (uN 0), (uN 8), (uN 116), (uN 111), (uN 83), (uN 116), (uN 114), (uN 105), (uN 110), (uN 103), (uN 1), (uN 0), (uN 20), (uN 40), (uN 41), (uN 76), (uN 106), (uN 97), (uN 118), (uN 97), (uN 47), (uN 108), (uN 97), (uN 110), (uN 103), (uN 47), (uN 83), (uN 116), (uN 114), (uN 105), (uN 110), (uN 103), (uN 59), (uN 1), (uN 0), (uN 13), (uN 83), (uN 116), (uN 97), (uN 99), (uN 107), (uN 77), (uN 97), (uN 112), (uN 84), (uN 97), (uN 98), (uN 108), (uN 101), (uN 0), (uN 33), (uN 0), (uN 11), (uN 0), (uN 2), (uN 0), (uN 0), (uN 0), (uN 1), (uN 0), (uN 9), (uN 0), (uN 8), (uN 0), (uN 9), (uN 0), (uN 0), (uN 0), (uN 2), (uN 0), (uN 1), (uN 0), (uN 3), (uN 0), (uN 4), (uN 0), (uN 1), (uN 0), (uN 7), (uN 0), (uN 0), (uN 0), (uN 17), (uN 0), (uN 1), (uN 0), (uN 1), (uN 0), (uN 0), (uN 0), (uN 5), (uN 42), (uN 183), (uN 0), (uN 6), (uN 177), (uN 0), (uN 0), (uN 0), (uN 0), (uN 0), (uN 1), (uN 0), (uN 28), (uN 0), (uN 29), (uN 0), (uN 1), (uN 0), (uN 7), (uN 0), (uN 0), (uN 0), (uN 55), (uN 0), (uN 2), (uN 0), (uN 1), (uN 0), (uN 0), (uN 0), (uN 25), (uN 178), (uN 0), (uN 13), (uN 158), (uN 0), (uN 18), (uN 178), (uN 0), (uN 13), (uN 4), (uN 100), (uN 179), (uN 0), (uN 13), (uN 178), (uN 0), (uN 19), (uN 42), (uN 182), (uN 0), (uN 25), (uN 19), (uN 0), (uN 27), (uN 176), (uN 0), (uN 0), (uN 0), (uN 1), (uN 0), (uN 30), (uN 0), (uN 0), (uN 0), (uN 12), (uN 0), (uN 1), (uN 255), (uN 0), (uN 21), (uN 0), (uN 1), (uN 7), (uN 0), (uN 11), (uN 0), (uN 0), (uN 0), (uN 0)])))
noncomputable abbrev q331 : Nat × Blk := g14616_9 (.so 15800 0 1 9)
noncomputable abbrev q332 : Nat × Blk := (14617, (.cells 3 false [] (T.ofList 0 .leaf [(pN 14615), (pN 14616), bF])))
noncomputable abbrev q333 : Nat × Blk := g7718_7 .nils
noncomputable abbrev q334 : Nat × Blk := (8791, (.cells 8 false [] (T.ofList 0 .leaf [(iN 52), .nils, (iN 33), tx26, tx12, .nils, .nils, (.so 8800 0 2 9)])))
noncomputable abbrev q335 : Nat × Blk := (10243, (.cells 8 false [] (T.ofList 0 .leaf [(iN 52), .nils, (iN 33), tx14, tx26, .nils, .nils, (.so 10252 0 2 9)])))
noncomputable abbrev q336 : Nat × Blk := (10442, (.cells 8 false [] (T.ofList 0 .leaf [(iN 52), .nils, (iN 33), tx9, tx26, .nils, .nils, (.so 10451 0 2 9)])))
noncomputable abbrev q337 : Nat × Blk := (10760, (.cells 8 false [] (T.ofList 0 .leaf [(iN 52), .nils, (iN 33), tx12, tx3, .nils, (.sl 10774 0 1 1), (.so 10773 0 3 9)])))
noncomputable abbrev q338 : Nat × Blk := (10774, (.cells 4 false [] (T.ofList 0 .leaf [z2, tx103, tx51, z0])))
noncomputable abbrev q339 : Nat × Blk := (10976, (.cells 3 false [] (T.ofList 0 .leaf [(pN 7718), (.map 10974), (.map 10975)])))
noncomputable abbrev q340 : Nat × Blk := g14317_1 .nils .nils .nils z0
noncomputable abbrev q341 : Nat × Blk := g14321_2 .nils bF z0 z0 z0
noncomputable abbrev q342 : Nat × Blk := (6868, (.cells 13 false [] (T.ofList 0 .leaf [(.so 7367 0 30 1), (.so 7369 0 30 1), (.so 7371 0 30 1), (iN 31), tx61, tx3, (iN 33), (iN 52), .nils, (.so 7008 0 8 1), z1, (.so 7388 0 100 1), z2])))
noncomputable abbrev q343 : Nat × Blk := (6873, (.cells 19 true [] (T.ofList 0 .leaf [(uN 1), (uN 0), (uN 16), (uN 106), (uN 97), (uN 118), (uN 97), (uN 47), (uN 108), (uN 97), (uN 110), (uN 103), (uN 47), (uN 79), (uN 98), (uN 106), (uN 101), (uN 99), (uN 116)])))
noncomputable abbrev q344 : Nat × Blk := (6882, (.cells 3 true [] (T.ofList 0 .leaf [(uN 7), (uN 0), (uN 1)])))
noncomputable abbrev q345 : Nat × Blk := (6892, (.cells 9 true [] (T.ofList 0 .leaf [(uN 1), (uN 0), (uN 6), (uN 60), (uN 105), (uN 110), (uN 105), (uN 116), (uN 62)])))
noncomputable abbrev q346 : Nat × Blk := (6902, (.cells 6 true [] (T.ofList 0 .leaf [(uN 1), (uN 0), (uN 3), (uN 40), (uN 41), (uN 86)])))
noncomputable abbrev q347 : Nat × Blk := (6913, (.cells 5 true [] (T.ofList 0 .leaf [(uN 12), (uN 0), (uN 3), (uN 0), (uN 4)])))
noncomputable abbrev q348 : Nat × Blk := (6925, (.cells 5 true [] (T.ofList 0 .leaf [(uN 10), (uN 0), (uN 2), (uN 0), (uN 5)])))
noncomputable abbrev q349 : Nat × Blk := (6968, (.cells 7 true [] (T.ofList 0 .leaf [(uN 1), (uN 0), (uN 4), (uN 67), (uN 111), (uN 100), (uN 101)])))
noncomputable abbrev q350 : Nat × Blk := (6986, (.cells 4 true [] (T.ofList 0 .leaf [(uN 1), (uN 0), (uN 1), (uN 110)])))
noncomputable abbrev q351 : Nat × Blk := (6998, (.cells 4 true [] (T.ofList 0 .leaf [(uN 1), (uN 0), (uN 1), (uN 73)])))
noncomputable abbrev q352 : Nat × Blk := (7008, (.cells 8 true [] (T.ofList 0 .leaf [(uN 0), (uN 9), (uN 0), (uN 8), (uN 0), (uN 9), (uN 0), (uN 0)])))
noncomputable abbrev q353 : Nat × Blk := (7016, (.cells 4 true [] (T.ofList 0 .leaf [(uN 1), (uN 0), (uN 1), (uN 65)])))
noncomputable abbrev q354 : Nat × Blk := (7025, (.cells 3 true [] (T.ofList 0 .leaf [(uN 7), (uN 0), (uN 10)])))
noncomputable abbrev q355 : Nat × Blk := (7057, (.cells 5 true [] (T.ofList 0 .leaf [(uN 12), (uN 0), (uN 8), (uN 0), (uN 9)])))
noncomputable abbrev q356 : Nat × Blk := (7069, (.cells 5 true [] (T.ofList 0 .leaf [(uN 9), (uN 0), (uN 11), (uN 0), (uN 12)])))
noncomputable abbrev q357 : Nat × Blk := (7153, (.cells 19 true [] (T.ofList 0 .leaf [(uN 1), (uN 0), (uN 16), (uN 106), (uN 97), (uN 118), (uN 97), (uN 47), (uN 108), (uN 97), (uN 110), (uN 103), (uN 47), (uN 83), (uN 121), (uN 115), (uN 116), (uN 101), (uN 109)])))
noncomputable abbrev q358 : Nat × Blk := (7162, (.cells 3 true [] (T.ofList 0 .leaf [(uN 7), (uN 0), (uN 14)])))
noncomputable abbrev q359 : Nat × Blk := (7172, (.cells 6 true [] (T.ofList 0 .leaf [(uN 1), (uN 0), (uN 3), (uN 111), (uN 117), (uN 116)])))
noncomputable abbrev q360 : Nat × Blk := (7182, (.cells 24 true [] (T.ofList 0 .leaf [(uN 1), (uN 0), (uN 21), (uN 76), (uN 106), (uN 97), (uN 118), (uN 97), (uN 47), (uN 105), (uN 111), (uN 47), (uN 80), (uN 114), (uN 105), (uN 110), (uN 116), (uN 83), (uN 116), (uN 114), (uN 101), (uN 97), (uN 109), (uN 59)])))
noncomputable abbrev q361 : Nat × Blk := (7193, (.cells 5 true [] (T.ofList 0 .leaf [(uN 12), (uN 0), (uN 16), (uN 0), (uN 17)])))
noncomputable abbrev q362 : Nat × Blk := (7205, (.cells 5 true [] (T.ofList 0 .leaf [(uN 9), (uN 0), (uN 15), (uN 0), (uN 18)])))
noncomputable abbrev q363 : Nat × Blk := (7219, (.cells 22 true [] (T.ofList 0 .leaf [(uN 1), (uN 0), (uN 19), (uN 106), (uN 97), (uN 118), (uN 97), (uN 47), (uN 105), (uN 111), (uN 47), (uN 80), (uN 114), (uN 105), (uN 110), (uN 116), (uN 83), (uN 116), (uN 114), (uN 101), (uN 97), (uN 109)])))
noncomputable abbrev q364 : Nat × Blk := (7228, (.cells 3 true [] (T.ofList 0 .leaf [(uN 7), (uN 0), (uN 20)])))
noncomputable abbrev q365 : Nat × Blk := (7238, (.cells 10 true [] (T.ofList 0 .leaf [(uN 1), (uN 0), (uN 7), (uN 112), (uN 114), (uN 105), (uN 110), (uN 116), (uN 108), (uN 110)])))
noncomputable abbrev q366 : Nat × Blk := (7248, (.cells 24 true [] (T.ofList 0 .leaf [(uN 1), (uN 0), (uN 21), (uN 40), (uN 76), (uN 106), (uN 97), (uN 118), (uN 97), (uN 47), (uN 108), (uN 97), (uN 110), (uN 103), (uN 47), (uN 79), (uN 98), (uN 106), (uN 101), (uN 99), (uN 116), (uN 59), (uN 41), (uN 86)])))
noncomputable abbrev q367 : Nat × Blk := (7259, (.cells 5 true [] (T.ofList 0 .leaf [(uN 12), (uN 0), (uN 22), (uN 0), (uN 23)])))
noncomputable abbrev q368 : Nat × Blk := (7271, (.cells 5 true [] (T.ofList 0 .leaf [(uN 10), (uN 0), (uN 21), (uN 0), (uN 24)])))
noncomputable abbrev q369 : Nat × Blk := (7292, (.cells 5 true [] (T.ofList 0 .leaf [(uN 1), (uN 0), (uN 2), (uN 109), (uN 101)])))
noncomputable abbrev q370 : Nat × Blk := (7301, (.cells 3 true [] (T.ofList 0 .leaf [(uN 8), (uN 0), (uN 26)])))
noncomputable abbrev q371 : Nat × Blk := (7331, (.cells 11 true [] (T.ofList 0 .leaf [(uN 1), (uN 0), (uN 8), (uN 116), (uN 111), (uN 83), (uN 116), (uN 114), (uN 105), (uN 110), (uN 103)])))
noncomputable abbrev q372 : Nat × Blk := (7343, (.cells 23 true [] (T.ofList 0 .leaf [(uN 1), (uN 0), (uN 20), (uN 40), (uN 41), (uN 76), (uN 106), (uN 97), (uN 118), (uN 97), (uN 47), (uN 108), (uN 97), (uN 110), (uN 103), (uN 47), (uN 83), (uN 116), (uN 114), (uN 105), (uN 110), (uN 103), (uN 59)])))
noncomputable abbrev q373 : Nat × Blk := (7365, (.cells 16 true [] (T.ofList 0 .leaf [(uN 1), (uN 0), (uN 13), (uN 83), (uN 116), (uN 97), (uN 99), (uN 107), (uN 77), (uN 97), (uN 112), (uN 84), (uN 97), (uN 98), (uN 108), (uN 101)])))
noncomputable abbrev q374 : Nat × Blk := (7367, (.cells 30 true [] (T.ofList 0 .leaf [(.str 17 39604874714118564987963700733454846093941), (.str 17 39604874714118564987963700733454846093923), (.str 7 17579444728839285), (.str 4 1445537909), tx104, (.str 28 9073788148333517045731761921079133361506268716264285142487197116986), (.str 5 435476710261), (.str 2 28277), (.str 2 18805), (.str 2 16757), (.str 2 16739), (.str 4 1228566126), (.str 6 80515305455929), tx94, tx95, (.str 4 1953853301), tx85, tx80, tx73, tx90, tx91, tx105, tx86, tx76, tx70, (.str 3 6647157), (.str 3 6647155), (.str 9 1907970655652752094325), (.str 21 86819084919626801046990092479340231442403959580789), (.str 14 2057110458715878086990115235976053)])))
noncomputable abbrev q375 : Nat × Blk := (7369, (.cells 30 true [] (T.ofList 0 .leaf [(.so 6873 0 19 1), (.so 6882 0 3 1), (.so 6892 0 9 1), (.so 6902 0 6 1), (.so 6913 0 5 1), (.so 6925 0 5 1), (.so 6968 0 7 1), (.so 6986 0 4 1), (.so 6998 0 4 1), (.so 7016 0 4 1), (.so 7025 0 3 1), (.so 7057 0 5 1), (.so 7069 0 5 1), (.so 7153 0 19 1), (.so 7162 0 3 1), (.so 7172 0 6 1), (.so 7182 0 24 1), (.so 7193 0 5 1), (.so 7205 0 5 1), (.so 7219 0 22 1), (.so 7228 0 3 1), (.so 7238 0 10 1), (.so 7248 0 24 1), (.so 7259 0 5 1), (.so 7271 0 5 1), (.so 7292 0 5 1), (.so 7301 0 3 1), (.so 7331 0 11 1), (.so 7343 0 23 1), (.so 7365 0 16 1)])))
noncomputable abbrev q376 : Nat × Blk := (7371, (.cells 30 true [] (T.ofList 0 .leaf [z1, z2, (iN 3), (iN 4), (iN 5), (iN 6), (iN 7), (iN 8), (iN 9), (iN 10), (iN 11), (iN 12), (iN 13), (iN 14), (iN 15), (iN 16), (iN 17), (iN 18), (iN 19), (iN 20), (iN 21), (iN 22), (iN 23), (iN 24), (iN 25), (iN 26), (iN 27), (iN 28), (iN 29), (iN 30)])))
noncomputable abbrev q377 : Nat × Blk := (7388, (.cells 100 true [] (T.ofList 0 .leaf [(uN 0), (uN 1), (uN 0), (uN 3), (uN 0), (uN 4), (uN 0), (uN 1), (uN 0), (uN 7), (uN 0), (uN 0), (uN 0), (uN 17), (uN 0), (uN 1), (uN 0), (uN 1), (uN 0), (uN 0), (uN 0), (uN 5), (uN 42), (uN 183), (uN 0), (uN 6), (uN 177), (uN 0), (uN 0), (uN 0), (uN 0), (uN 0), (uN 1), (uN 0), (uN 28), (uN 0), (uN 29), (uN 0), (uN 1), (uN 0), (uN 7), (uN 0), (uN 0), (uN 0), (uN 55), (uN 0), (uN 2), (uN 0), (uN 1), (uN 0), (uN 0), (uN 0), (uN 25), (uN 178), (uN 0), (uN 13), (uN 158), (uN 0), (uN 18), (uN 178), (uN 0), (uN 13), (uN 4), (uN 100), (uN 179), (uN 0), (uN 13), (uN 178), (uN 0), (uN 19), (uN 42), (uN 182), (uN 0), (uN 25), (uN 19), (uN 0), (uN 27), (uN 176), (uN 0), (uN 0), (uN 0), (uN 1), (uN 0), (uN 30), (uN 0), (uN 0), (uN 0), (uN 12), (uN 0), (uN 1), (uN 255), (uN 0), (uN 21), (uN 0), (uN 1), (uN 7), (uN 0), (uN 11), (uN 0), (uN 0)])))
noncomputable abbrev q378 : Nat × Blk := (7394, (.cells 4 true [] (T.ofList 0 .leaf [(uN 1), (uN 0), (uN 1), (uN 65)])))
noncomputable abbrev q379 : Nat × Blk := (7403, (.cells 3 true [] (T.ofList 0 .leaf [(uN 7), (uN 0), (uN 1)])))
noncomputable abbrev q380 : Nat × Blk := (7413, (.cells 4 true [] (T.ofList 0 .leaf [(uN 1), (uN 0), (uN 1), (uN 110)])))
noncomputable abbrev q381 : Nat × Blk := (7423, (.cells 4 true [] (T.ofList 0 .leaf [(uN 1), (uN 0), (uN 1), (uN 73)])))
noncomputable abbrev q382 : Nat × Blk := (7434, (.cells 5 true [] (T.ofList 0 .leaf [(uN 12), (uN 0), (uN 3), (uN 0), (uN 4)])))
noncomputable abbrev q383 : Nat × Blk := (7446, (.cells 5 true [] (T.ofList 0 .leaf [(uN 9), (uN 0), (uN 2), (uN 0), (uN 5)])))
noncomputable abbrev q384 : Nat × Blk := (7459, (.cells 19 true [] (T.ofList 0 .leaf [(uN 1), (uN 0), (uN 16), (uN 106), (uN 97), (uN 118), (uN 97), (uN 47), (uN 108), (uN 97), (uN 110), (uN 103), (uN 47), (uN 83), (uN 121), (uN 115), (uN 116), (uN 101), (uN 109)])))
noncomputable abbrev q385 : Nat × Blk := (7468, (.cells 3 true [] (T.ofList 0 .leaf [(uN 7), (uN 0), (uN 7)])))
noncomputable abbrev q386 : Nat × Blk := (7478, (.cells 6 true [] (T.ofList 0 .leaf [(uN 1), (uN 0), (uN 3), (uN 111), (uN 117), (uN 116)])))
noncomputable abbrev q387 : Nat × Blk := (7488, (.cells 24 true [] (T.ofList 0 .leaf [(uN 1), (uN 0), (uN 21), (uN 76), (uN 106), (uN 97), (uN 118), (uN 97), (uN 47), (uN 105), (uN 111), (uN 47), (uN 80), (uN 114), (uN 105), (uN 110), (uN 116), (uN 83), (uN 116), (uN 114), (uN 101), (uN 97), (uN 109), (uN 59)])))
noncomputable abbrev q388 : Nat × Blk := (7499, (.cells 5 true [] (T.ofList 0 .leaf [(uN 12), (uN 0), (uN 9), (uN 0), (uN 10)])))
noncomputable abbrev q389 : Nat × Blk := (7511, (.cells 5 true [] (T.ofList 0 .leaf [(uN 9), (uN 0), (uN 8), (uN 0), (uN 11)])))
noncomputable abbrev q390 : Nat × Blk := (7542, (.cells 9 true [] (T.ofList 0 .leaf [(uN 1), (uN 0), (uN 6), (uN 60), (uN 105), (uN 110), (uN 105), (uN 116), (uN 62)])))
noncomputable abbrev q391 : Nat × Blk := (7552, (.cells 6 true [] (T.ofList 0 .leaf [(uN 1), (uN 0), (uN 3), (uN 40), (uN 41), (uN 86)])))
noncomputable abbrev q392 : Nat × Blk := (7563, (.cells 5 true [] (T.ofList 0 .leaf [(uN 12), (uN 0), (uN 13), (uN 0), (uN 14)])))
noncomputable abbrev q393 : Nat × Blk := (7575, (.cells 5 true [] (T.ofList 0 .leaf [(uN 10), (uN 0), (uN 2), (uN 0), (uN 15)])))
noncomputable abbrev q394 : Nat × Blk := (7592, (.cells 22 true [] (T.ofList 0 .leaf [(uN 1), (uN 0), (uN 19), (uN 106), (uN 97), (uN 118), (uN 97), (uN 47), (uN 105), (uN 111), (uN 47), (uN 80), (uN 114), (uN 105), (uN 110), (uN 116), (uN 83), (uN 116), (uN 114), (uN 101), (uN 97), (uN 109)])))
noncomputable abbrev q395 : Nat × Blk := (7601, (.cells 3 true [] (T.ofList 0 .leaf [(uN 7), (uN 0), (uN 17)])))
noncomputable abbrev q396 : Nat × Blk := (7611, (.cells 10 true [] (T.ofList 0 .leaf [(uN 1), (uN 0), (uN 7), (uN 112), (uN 114), (uN 105), (uN 110), (uN 116), (uN 108), (uN 110)])))
noncomputable abbrev q397 : Nat × Blk := (7621, (.cells 24 true [] (T.ofList 0 .leaf [(uN 1), (uN 0), (uN 21), (uN 40), (uN 76), (uN 106), (uN 97), (uN 118), (uN 97), (uN 47), (uN 108), (uN 97), (uN 110), (uN 103), (uN 47), (uN 79), (uN 98), (uN 106), (uN 101), (uN 99), (uN 116), (uN 59), (uN 41), (uN 86)])))
noncomputable abbrev q398 : Nat × Blk := (7632, (.cells 5 true [] (T.ofList 0 .leaf [(uN 12), (uN 0), (uN 19), (uN 0), (uN 20)])))
noncomputable abbrev q399 : Nat × Blk := (7644, (.cells 5 true [] (T.ofList 0 .leaf [(uN 10), (uN 0), (uN 18), (uN 0), (uN 21)])))
noncomputable abbrev q400 : Nat × Blk := (7666, (.cells 5 true [] (T.ofList 0 .leaf [(uN 1), (uN 0), (uN 2), (uN 103), (uN 111)])))
noncomputable abbrev q401 : Nat × Blk := (7678, (.cells 7 true [] (T.ofList 0 .leaf [(uN 1), (uN 0), (uN 4), (uN 40), (uN 73), (uN 41), (uN 73)])))
noncomputable abbrev q402 : Nat × Blk := (7702, (.cells 7 true [] (T.ofList 0 .leaf [(uN 1), (uN 0), (uN 4), (uN 67), (uN 111), (uN 100), (uN 101)])))
noncomputable abbrev q403 : Nat × Blk := (7714, (.cells 45 true [] (T.ofList 0 .leaf [(uN 0), (uN 9), (uN 0), (uN 23), (uN 0), (uN 24), (uN 0), (uN 1), (uN 0), (uN 25), (uN 0), (uN 0), (uN 0), (uN 31), (uN 0), (uN 3), (uN 0), (uN 1), (uN 0), (uN 0), (uN 0), (uN 19), (uN 26), (uN 179), (uN 0), (uN 6), (uN 178), (uN 0), (uN 12), (uN 187), (uN 0), (uN 2), (uN 89), (uN 183), (uN 0), (uN 16), (uN 182), (uN 0), (uN 22), (uN 3), (uN 172), (uN 0), (uN 0), (uN 0), (uN 0)])))
noncomputable abbrev q404 : Nat × Blk := (7715, (.cells 2 false [] (T.ofList 0 .leaf [(pN 6868), (pN 7389)])))
noncomputable abbrev q405 : Nat × Blk := (3256, (.cells 5 false [] (T.ofList 0 .leaf [(pN 3), (.so 6824 0 8 1), (.so 6826 0 3 1), (.so 6823 0 3 3), (.map 3255)])))
noncomputable abbrev q406 : Nat × Blk := (6823, (.cells 9 true [] (T.ofList 0 .leaf [tx0, .nils, (uN 0), tx9, (.so 6725 0 1 1), (uN 0), tx14, (.so 6821 0 1 1), (uN 0)])))
noncomputable abbrev q407 : Nat × Blk := (6824, (.cells 8 true [] (T.ofList 0 .leaf [(.int .u64 0), (.int .u64 0), (.int .u64 1), (.int .u64 0), (.int .u64 0), (.int .u64 2), (.int .u64 0), (.int .u64 0)])))
noncomputable abbrev q408 : Nat × Blk := (6826, (.cells 3 true [] (T.ofList 0 .leaf [z0, z2, (iN 5)])))
noncomputable abbrev q409 : Nat × Blk := (6842, (.map [(z1, z1, 0), ((iN 3), z1, 1), ((iN 6), z1, 2)] 3))
noncomputable abbrev q410 : Nat × Blk := (40, (.cells 4 true [] (T.ofList 0 .leaf [(uN 76), tx3, z0, (uN 0)])))
noncomputable abbrev q411 : Nat × Blk := g5_29 (uN 90)
noncomputable abbrev q412 : Nat × Blk := g5_29 (uN 67)
noncomputable abbrev q413 : Nat × Blk := g5_29 (uN 74)
noncomputable abbrev q414 : Nat × Blk := (40, (.cells 4 true [] (T.ofList 0 .leaf [(uN 76), tx5, z0, (uN 0)])))
noncomputable abbrev q415 : Nat × Blk := (2, (.map [(tx0, (pN 199), 0), (tx35, (pN 347), 1), (tx36, (pN 456), 2), (tx22, (pN 567), 3), (tx37, (pN 681), 4), (tx39, (pN 794), 5), (tx32, (pN 891), 6), (tx43, (pN 985), 7), (tx26, (pN 1076), 8), (tx46, (pN 1166), 9), (tx28, (pN 1272), 10), (tx40, (pN 1375), 11), (tx23, (pN 1490), 12), (tx11, (pN 1588), 13), (tx20, (pN 1681), 14), (tx41, (pN 1786), 15), (tx18, (pN 1885), 16), (tx30, (pN 1997), 17), (tx33, (pN 2093), 18), (tx44, (pN 2194), 19), (tx42, (pN 2296), 20), (tx34, (pN 2406), 21), (tx3, (pN 2417), 22), (tx14, (pN 2528), 23), (tx16, (pN 2620), 24), (tx9, (pN 2727), 25), (tx5, (pN 2748), 26), (tx2, (pN 2805), 27), (tx21, (pN 2945), 28), (tx19, (pN 2957), 29), (tx12, (pN 3045), 30), (tx24, (pN 3145), 31), (tx47, (pN 3245), 32)] 33))
noncomputable abbrev q416 : Nat × Blk := (3, (.cells 3 false [] (T.ofList 0 .leaf [(.map 1), (.map 2), .nils])))
noncomputable abbrev q417 : Nat × Blk := (199, (.cells 8 false [] (T.ofList 0 .leaf [(iN 52), .nils, (iN 49), tx0, tx3, .nils, .nils, (.so 252 0 13 9)])))
noncomputable abbrev q418 : Nat × Blk := (1076, (.cells 8 false [] (T.ofList 0 .leaf [(iN 52), .nils, (iN 33), tx26, tx12, .nils, .nils, (.so 1085 0 2 9)])))
noncomputable abbrev q419 : Nat × Blk := (2417, (.cells 8 false [] (T.ofList 0 .leaf [(iN 52), .nils, (iN 33), tx3, tx4, .nils, .nils, (.so 2429 0 3 9)])))
noncomputable abbrev q420 : Nat × Blk := (2528, (.cells 8 false [] (T.ofList 0 .leaf [(iN 52), .nils, (iN 33), tx14, tx26, .nils, .nils, (.so 2537 0 2 9)])))
noncomputable abbrev q421 : Nat × Blk := (2727, (.cells 8 false [] (T.ofList 0 .leaf [(iN 52), .nils, (iN 33), tx9, tx26, .nils, .nils, (.so 2736 0 2 9)])))
noncomputable abbrev q422 : Nat × Blk := (3045, (.cells 8 false [] (T.ofList 0 .leaf [(iN 52), .nils, (iN 33), tx12, tx3, .nils, (.sl 3059 0 1 1), (.so 3058 0 3 9)])))
noncomputable abbrev q423 : Nat × Blk := (3059, (.cells 4 false [] (T.ofList 0 .leaf [z2, tx103, tx51, z0])))
theorem mixed : Tryz.prog.follows .mixedOrders = true := by kernel_rfl
variable [Tab]
noncomputable def K_SQ0a : Hand := Hand.none
theorem K_SQ0a_ok : HandOk Tryz.prog K_SQ0a := HandOk.none

noncomputable def S19622 : Sum := ⟨(iN 7), 0, []⟩
theorem S19622_ok : SumOk Tryz.prog 530 [tx0, (uN 47)] S19622 := SumOk.of_run (K := K_SQ0a) (n := 5000) (keep := []) mixed K_SQ0a_ok (by kernel_rfl) (by as_aux_lemma => kernel_rfl)

noncomputable def I18004 : In := ⟨66, [(pN 14321)], 18712, [(14317, (.cells 4 false [] (T.ofList 0 .leaf [(.so 18706 0 1 1), (.so 18707 0 1 1), (.so 18705 0 1 7), (iN 8)]))), (14320, (.map [] 0)), (14321, (.cells 32 false [] (T.ofList 0 .leaf [(pN 7718), (pN 10976), (pN 10971), (pN 10973), (pN 10977), (pN 14317), (.so 18710 0 1 1), (.map 14318), (.map 14319), .nils, z1, (iN 3), (iN 6), z0, .nilp, bT, (iN 2000), z0, z0, z0, z0, z0, (uN 0), z0, tx4, tx4, bF, z0, .nils, z0, z0, (.map 14320)]))), q5, q6, q7, (18705, (.cells 7 true [] (T.ofList 0 .leaf [z0, z0, z0, z0, z1, (iN 3), z0]))), (18706, (.cells 1 true [] (T.ofList 0 .leaf [(oN 1)]))), (18707, (.cells 1 true [] (T.ofList 0 .leaf [bF]))), (18708, (.cells 6 false [] (T.ofList 0 .leaf [z0, z0, (pN 16430), z0, z0, .nilp]))), (18710, (.cells 1 true [] (T.ofList 0 .leaf [(pN 18708)])))], bT, 18741, [q314, (14320, (.map [(tx8, z1, 0)] 1)), (14321, (.cells 32 false [] (T.ofList 0 .leaf [(pN 7718), (pN 10976), (pN 10971), (pN 10973), (pN 10977), (pN 14317), (.so 18710 0 1 1), (.map 14318), (.map 14319), .nils, z1, (iN 3), (iN 6), z0, .nilp, bT, (iN 2000), z1, z0, z1, z0, z0, (uN 0), z0, tx4, tx4, bF, z0, .nils, z0, z0, (.map 14320)]))), q5, q6, q7, (18705, (.cells 7 true [] (T.ofList 0 .leaf [z0, z0, z0, z0, z1, (iN 3), z1]))), (18708, (.cells 6 false [] (T.ofList 0 .leaf [z0, z0, (pN 16430), z0, z1, .nilp]))), (18710, (.cells 1 true [] (T.ofList 0 .leaf [(pN 18708)]))), (18730, (.cells 2 true [] (T.ofList 0 .leaf [(oN 1), (oN 1)]))), q324]⟩
theorem I18004_ok : InOk Tryz.prog I18004 := InOk.of_run (K := K_SQ0a) (n := 5000) mixed K_SQ0a_ok (by kernel_rfl) (by as_aux_lemma => kernel_rfl)

noncomputable def S17364 : Sum := ⟨(.tup [(uN 0), bF]), 13, []⟩
theorem S17364_ok : SumOk Tryz.prog 263 [(iN 172)] S17364 := SumOk.of_run (K := K_SQ0a) (n := 5000) (keep := []) mixed K_SQ0a_ok (by kernel_rfl) (by as_aux_lemma => kernel_rfl)

noncomputable def S17359 : Sum := ⟨(.tup [(uN 0), bF]), 13, []⟩
theorem S17359_ok : SumOk Tryz.prog 263 [(iN 3)] S17359 := SumOk.of_run (K := K_SQ0a) (n := 5000) (keep := []) mixed K_SQ0a_ok (by kernel_rfl) (by as_aux_lemma => kernel_rfl)

noncomputable def S17316 : Sum := ⟨(.tup [(uN 0), bF]), 13, []⟩
theorem S17316_ok : SumOk Tryz.prog 263 [(iN 89)] S17316 := SumOk.of_run (K := K_SQ0a) (n := 5000) (keep := []) mixed K_SQ0a_ok (by kernel_rfl) (by as_aux_lemma => kernel_rfl)

noncomputable def S17301 : Sum := ⟨(.tup [(uN 0), bF]), 13, []⟩
theorem S17301_ok : SumOk Tryz.prog 263 [(iN 187)] S17301 := SumOk.of_run (K := K_SQ0a) (n := 5000) (keep := []) mixed K_SQ0a_ok (by kernel_rfl) (by as_aux_lemma => kernel_rfl)

noncomputable def S17276 : Sum := ⟨bT, 19, []⟩
theorem S17276_ok : SumOk Tryz.prog 261 [(iN 172)] S17276 := SumOk.of_run (K := K_SQ0a) (n := 5000) (keep := []) mixed K_SQ0a_ok (by kernel_rfl) (by as_aux_lemma => kernel_rfl)

noncomputable def S17252 : Sum := ⟨bT, 9, []⟩
theorem S17252_ok : SumOk Tryz.prog 261 [(iN 89)] S17252 := SumOk.of_run (K := K_SQ0a) (n := 5000) (keep := []) mixed K_SQ0a_ok (by kernel_rfl) (by as_aux_lemma => kernel_rfl)

noncomputable def S17245 : Sum := ⟨bT, 21, []⟩
theorem S17245_ok : SumOk Tryz.prog 261 [(iN 187)] S17245 := SumOk.of_run (K := K_SQ0a) (n := 5000) (keep := []) mixed K_SQ0a_ok (by kernel_rfl) (by as_aux_lemma => kernel_rfl)

noncomputable def S17156 : Sum := ⟨bT, 6, []⟩
theorem S17156_ok : SumOk Tryz.prog 228 [tx77] S17156 := SumOk.of_run (K := K_SQ0a) (n := 5000) (keep := []) mixed K_SQ0a_ok (by kernel_rfl) (by as_aux_lemma => kernel_rfl)

noncomputable def S17139 : Sum := ⟨(.tup [(.so 5 0 1 4), (.agg [(uN 73), tx4, z0, (uN 0)]), bT]), 11, [q326]⟩
theorem S17139_ok : SumOk Tryz.prog 160 [tx74] S17139 := SumOk.of_run (K := K_SQ0a) (n := 5000) (keep := [5]) mixed K_SQ0a_ok (by kernel_rfl) (by as_aux_lemma => kernel_rfl)

noncomputable def S16903 : Sum := ⟨bT, 5, []⟩
theorem S16903_ok : SumOk Tryz.prog 299 [tx66] S16903 := SumOk.of_run (K := K_SQ0a) (n := 5000) (keep := []) mixed K_SQ0a_ok (by kernel_rfl) (by as_aux_lemma => kernel_rfl)

noncomputable def S15751 : Sum := ⟨(.tup [(uN 0), bF]), 13, []⟩
theorem S15751_ok : SumOk Tryz.prog 263 [(iN 176)] S15751 := SumOk.of_run (K := K_SQ0a) (n := 5000) (keep := []) mixed K_SQ0a_ok (by kernel_rfl) (by as_aux_lemma => kernel_rfl)

noncomputable def S15744 : Sum := ⟨(.tup [(uN 0), bF]), 13, []⟩
theorem S15744_ok : SumOk Tryz.prog 263 [(iN 19)] S15744 := SumOk.of_run (K := K_SQ0a) (n := 5000) (keep := []) mixed K_SQ0a_ok (by kernel_rfl) (by as_aux_lemma => kernel_rfl)

noncomputable def S15725 : Sum := ⟨(.tup [(uN 0), bF]), 13, []⟩
theorem S15725_ok : SumOk Tryz.prog 263 [(iN 182)] S15725 := SumOk.of_run (K := K_SQ0a) (n := 5000) (keep := []) mixed K_SQ0a_ok (by kernel_rfl) (by as_aux_lemma => kernel_rfl)

noncomputable def S15708 : Sum := ⟨(.tup [(uN 0), bF]), 13, []⟩
theorem S15708_ok : SumOk Tryz.prog 263 [(iN 179)] S15708 := SumOk.of_run (K := K_SQ0a) (n := 5000) (keep := []) mixed K_SQ0a_ok (by kernel_rfl) (by as_aux_lemma => kernel_rfl)

noncomputable def S15703 : Sum := ⟨(.tup [(uN 0), bF]), 13, []⟩
theorem S15703_ok : SumOk Tryz.prog 263 [(iN 100)] S15703 := SumOk.of_run (K := K_SQ0a) (n := 5000) (keep := []) mixed K_SQ0a_ok (by kernel_rfl) (by as_aux_lemma => kernel_rfl)

noncomputable def S15698 : Sum := ⟨(.tup [(uN 0), bF]), 13, []⟩
theorem S15698_ok : SumOk Tryz.prog 263 [(iN 4)] S15698 := SumOk.of_run (K := K_SQ0a) (n := 5000) (keep := []) mixed K_SQ0a_ok (by kernel_rfl) (by as_aux_lemma => kernel_rfl)

noncomputable def S15687 : Sum := ⟨(.tup [(uN 0), bF]), 13, []⟩
theorem S15687_ok : SumOk Tryz.prog 263 [(iN 158)] S15687 := SumOk.of_run (K := K_SQ0a) (n := 5000) (keep := []) mixed K_SQ0a_ok (by kernel_rfl) (by as_aux_lemma => kernel_rfl)

noncomputable def S15681 : Sum := ⟨(.tup [(uN 0), bF]), 13, []⟩
theorem S15681_ok : SumOk Tryz.prog 263 [(iN 178)] S15681 := SumOk.of_run (K := K_SQ0a) (n := 5000) (keep := []) mixed K_SQ0a_ok (by kernel_rfl) (by as_aux_lemma => kernel_rfl)

noncomputable def S15673 : Sum := ⟨bT, 20, []⟩
theorem S15673_ok : SumOk Tryz.prog 261 [(iN 176)] S15673 := SumOk.of_run (K := K_SQ0a) (n := 5000) (keep := []) mixed K_SQ0a_ok (by kernel_rfl) (by as_aux_lemma => kernel_rfl)

noncomputable def S15659 : Sum := ⟨bT, 20, []⟩
theorem S15659_ok : SumOk Tryz.prog 261 [(iN 182)] S15659 := SumOk.of_run (K := K_SQ0a) (n := 5000) (keep := []) mixed K_SQ0a_ok (by kernel_rfl) (by as_aux_lemma => kernel_rfl)

noncomputable def S15641 : Sum := ⟨bT, 20, []⟩
theorem S15641_ok : SumOk Tryz.prog 261 [(iN 179)] S15641 := SumOk.of_run (K := K_SQ0a) (n := 5000) (keep := []) mixed K_SQ0a_ok (by kernel_rfl) (by as_aux_lemma => kernel_rfl)

noncomputable def S15635 : Sum := ⟨bT, 10, []⟩
theorem S15635_ok : SumOk Tryz.prog 261 [(iN 100)] S15635 := SumOk.of_run (K := K_SQ0a) (n := 5000) (keep := []) mixed K_SQ0a_ok (by kernel_rfl) (by as_aux_lemma => kernel_rfl)

noncomputable def S15617 : Sum := ⟨bT, 18, []⟩
theorem S15617_ok : SumOk Tryz.prog 261 [(iN 158)] S15617 := SumOk.of_run (K := K_SQ0a) (n := 5000) (keep := []) mixed K_SQ0a_ok (by kernel_rfl) (by as_aux_lemma => kernel_rfl)

noncomputable def S15610 : Sum := ⟨bT, 20, []⟩
theorem S15610_ok : SumOk Tryz.prog 261 [(iN 178)] S15610 := SumOk.of_run (K := K_SQ0a) (n := 5000) (keep := []) mixed K_SQ0a_ok (by kernel_rfl) (by as_aux_lemma => kernel_rfl)

noncomputable def S15533 : Sum := ⟨(iN (-1)), 1, []⟩
theorem S15533_ok : SumOk Tryz.prog 371 [tx31, tx106] S15533 := SumOk.of_run (K := K_SQ0a) (n := 5000) (keep := []) mixed K_SQ0a_ok (by kernel_rfl) (by as_aux_lemma => kernel_rfl)

noncomputable def S15506 : Sum := ⟨(iN (-1)), 1, []⟩
theorem S15506_ok : SumOk Tryz.prog 371 [tx31, tx68] S15506 := SumOk.of_run (K := K_SQ0a) (n := 5000) (keep := []) mixed K_SQ0a_ok (by kernel_rfl) (by as_aux_lemma => kernel_rfl)

noncomputable def S15379 : Sum := ⟨(.tup [(uN 0), bF]), 13, []⟩
theorem S15379_ok : SumOk Tryz.prog 263 [(iN 177)] S15379 := SumOk.of_run (K := K_SQ0a) (n := 5000) (keep := []) mixed K_SQ0a_ok (by kernel_rfl) (by as_aux_lemma => kernel_rfl)

noncomputable def S15360 : Sum := ⟨(.tup [(uN 0), bF]), 13, []⟩
theorem S15360_ok : SumOk Tryz.prog 263 [(iN 183)] S15360 := SumOk.of_run (K := K_SQ0a) (n := 5000) (keep := []) mixed K_SQ0a_ok (by kernel_rfl) (by as_aux_lemma => kernel_rfl)

noncomputable def S15355 : Sum := ⟨(.tup [(uN 65), bF]), 13, []⟩
theorem S15355_ok : SumOk Tryz.prog 263 [(iN 42)] S15355 := SumOk.of_run (K := K_SQ0a) (n := 5000) (keep := []) mixed K_SQ0a_ok (by kernel_rfl) (by as_aux_lemma => kernel_rfl)

noncomputable def S15347 : Sum := ⟨bT, 20, []⟩
theorem S15347_ok : SumOk Tryz.prog 261 [(iN 177)] S15347 := SumOk.of_run (K := K_SQ0a) (n := 5000) (keep := []) mixed K_SQ0a_ok (by kernel_rfl) (by as_aux_lemma => kernel_rfl)

noncomputable def S15340 : Sum := ⟨bT, 20, []⟩
theorem S15340_ok : SumOk Tryz.prog 261 [(iN 183)] S15340 := SumOk.of_run (K := K_SQ0a) (n := 5000) (keep := []) mixed K_SQ0a_ok (by kernel_rfl) (by as_aux_lemma => kernel_rfl)

noncomputable def S15076 : Sum := ⟨(.tup [(.so 26 0 13 1), bT]), 27, [(26, (.cells 13 true [] (T.ofList 0 .leaf [(.int .u16 83), (.int .u16 116), (.int .u16 97), (.int .u16 99), (.int .u16 107), (.int .u16 77), (.int .u16 97), (.int .u16 112), (.int .u16 84), (.int .u16 97), (.int .u16 98), (.int .u16 108), (.int .u16 101)])))]⟩
theorem S15076_ok : SumOk Tryz.prog 200 [tx71] S15076 := SumOk.of_run (K := K_SQ0a) (n := 5000) (keep := [26]) mixed K_SQ0a_ok (by kernel_rfl) (by as_aux_lemma => kernel_rfl)

noncomputable def S15074 : Sum := ⟨(.tup [(.so 40 0 20 1), bT]), 41, [(40, (.cells 20 true [] (T.ofList 0 .leaf [(.int .u16 40), (.int .u16 41), (.int .u16 76), (.int .u16 106), (.int .u16 97), (.int .u16 118), (.int .u16 97), (.int .u16 47), (.int .u16 108), (.int .u16 97), (.int .u16 110), (.int .u16 103), (.int .u16 47), (.int .u16 83), (.int .u16 116), (.int .u16 114), (.int .u16 105), (.int .u16 110), (.int .u16 103), (.int .u16 59)])))]⟩
theorem S15074_ok : SumOk Tryz.prog 200 [tx10] S15074 := SumOk.of_run (K := K_SQ0a) (n := 5000) (keep := [40]) mixed K_SQ0a_ok (by kernel_rfl) (by as_aux_lemma => kernel_rfl)

noncomputable def S15072 : Sum := ⟨(.tup [(.so 16 0 8 1), bT]), 17, [(16, (.cells 8 true [] (T.ofList 0 .leaf [(.int .u16 116), (.int .u16 111), (.int .u16 83), (.int .u16 116), (.int .u16 114), (.int .u16 105), (.int .u16 110), (.int .u16 103)])))]⟩
theorem S15072_ok : SumOk Tryz.prog 200 [tx31] S15072 := SumOk.of_run (K := K_SQ0a) (n := 5000) (keep := [16]) mixed K_SQ0a_ok (by kernel_rfl) (by as_aux_lemma => kernel_rfl)

noncomputable def S15044 : Sum := ⟨(iN (-1)), 1, []⟩
theorem S15044_ok : SumOk Tryz.prog 371 [tx15, tx106] S15044 := SumOk.of_run (K := K_SQ0a) (n := 5000) (keep := []) mixed K_SQ0a_ok (by kernel_rfl) (by as_aux_lemma => kernel_rfl)

noncomputable def S14808 : Sum := ⟨(iN (-1)), 1, []⟩
theorem S14808_ok : SumOk Tryz.prog 371 [tx15, tx68] S14808 := SumOk.of_run (K := K_SQ0a) (n := 5000) (keep := []) mixed K_SQ0a_ok (by kernel_rfl) (by as_aux_lemma => kernel_rfl)

noncomputable def S14795 : Sum := ⟨(.tup [(.so 42 0 21 1), bT]), 43, [(42, (.cells 21 true [] (T.ofList 0 .leaf [(.int .u16 40), (.int .u16 76), (.int .u16 106), (.int .u16 97), (.int .u16 118), (.int .u16 97), (.int .u16 47), (.int .u16 108), (.int .u16 97), (.int .u16 110), (.int .u16 103), (.int .u16 47), (.int .u16 79), (.int .u16 98), (.int .u16 106), (.int .u16 101), (.int .u16 99), (.int .u16 116), (.int .u16 59), (.int .u16 41), (.int .u16 86)])))]⟩
theorem S14795_ok : SumOk Tryz.prog 200 [tx17] S14795 := SumOk.of_run (K := K_SQ0a) (n := 5000) (keep := [42]) mixed K_SQ0a_ok (by kernel_rfl) (by as_aux_lemma => kernel_rfl)

noncomputable def S14793 : Sum := ⟨(.tup [(.so 14 0 7 1), bT]), 15, [(14, (.cells 7 true [] (T.ofList 0 .leaf [(.int .u16 112), (.int .u16 114), (.int .u16 105), (.int .u16 110), (.int .u16 116), (.int .u16 108), (.int .u16 110)])))]⟩
theorem S14793_ok : SumOk Tryz.prog 200 [tx15] S14793 := SumOk.of_run (K := K_SQ0a) (n := 5000) (keep := [14]) mixed K_SQ0a_ok (by kernel_rfl) (by as_aux_lemma => kernel_rfl)

noncomputable def S14728 : Sum := ⟨(.tup [(.so 38 0 19 1), bT]), 39, [(38, (.cells 19 true [] (T.ofList 0 .leaf [(.int .u16 106), (.int .u16 97), (.int .u16 118), (.int .u16 97), (.int .u16 47), (.int .u16 105), (.int .u16 111), (.int .u16 47), (.int .u16 80), (.int .u16 114), (.int .u16 105), (.int .u16 110), (.int .u16 116), (.int .u16 83), (.int .u16 116), (.int .u16 114), (.int .u16 101), (.int .u16 97), (.int .u16 109)])))]⟩
theorem S14728_ok : SumOk Tryz.prog 200 [tx0] S14728 := SumOk.of_run (K := K_SQ0a) (n := 5000) (keep := [38]) mixed K_SQ0a_ok (by kernel_rfl) (by as_aux_lemma => kernel_rfl)

noncomputable def S14639 : Sum := ⟨bF, 1, []⟩
theorem S14639_ok : SumOk Tryz.prog 306 [tx72, tx68] S14639 := SumOk.of_run (K := K_SQ0a) (n := 5000) (keep := []) mixed K_SQ0a_ok (by kernel_rfl) (by as_aux_lemma => kernel_rfl)

noncomputable def S14623 : Sum := ⟨(iN (-1)), 2, []⟩
theorem S14623_ok : SumOk Tryz.prog 371 [tx75, tx68] S14623 := SumOk.of_run (K := K_SQ0a) (n := 5000) (keep := []) mixed K_SQ0a_ok (by kernel_rfl) (by as_aux_lemma => kernel_rfl)

noncomputable def S14621 : Sum := ⟨(.tup [(.so 22 0 11 1), bT]), 23, [(22, (.cells 11 true [] (T.ofList 0 .leaf [(.int .u16 80), (.int .u16 114), (.int .u16 105), (.int .u16 110), (.int .u16 116), (.int .u16 83), (.int .u16 116), (.int .u16 114), (.int .u16 101), (.int .u16 97), (.int .u16 109)])))]⟩
theorem S14621_ok : SumOk Tryz.prog 200 [tx75] S14621 := SumOk.of_run (K := K_SQ0a) (n := 5000) (keep := [22]) mixed K_SQ0a_ok (by kernel_rfl) (by as_aux_lemma => kernel_rfl)

noncomputable def S14609 : Sum := ⟨bT, 6, []⟩
theorem S14609_ok : SumOk Tryz.prog 228 [(.str 2 28521)] S14609 := SumOk.of_run (K := K_SQ0a) (n := 5000) (keep := []) mixed K_SQ0a_ok (by kernel_rfl) (by as_aux_lemma => kernel_rfl)

noncomputable def S14584 : Sum := ⟨(.sl 0 0 3 3), 1, [(0, (.cells 3 false [tx4] (T.ofList 0 .leaf [tx92, (.str 2 28521), tx75])))]⟩
theorem S14584_ok : SumOk Tryz.prog 426 [tx0, tx102, z0, (iN (-1))] S14584 := SumOk.of_run (K := K_SQ0a) (n := 5000) (keep := [0]) mixed K_SQ0a_ok (by kernel_rfl) (by as_aux_lemma => kernel_rfl)

noncomputable def S14568 : Sum := ⟨(.tup [(.so 42 0 21 1), bT]), 43, [(42, (.cells 21 true [] (T.ofList 0 .leaf [(.int .u16 76), (.int .u16 106), (.int .u16 97), (.int .u16 118), (.int .u16 97), (.int .u16 47), (.int .u16 105), (.int .u16 111), (.int .u16 47), (.int .u16 80), (.int .u16 114), (.int .u16 105), (.int .u16 110), (.int .u16 116), (.int .u16 83), (.int .u16 116), (.int .u16 114), (.int .u16 101), (.int .u16 97), (.int .u16 109), (.int .u16 59)])))]⟩
theorem S14568_ok : SumOk Tryz.prog 200 [tx25] S14568 := SumOk.of_run (K := K_SQ0a) (n := 5000) (keep := [42]) mixed K_SQ0a_ok (by kernel_rfl) (by as_aux_lemma => kernel_rfl)

noncomputable def S14545 : Sum := ⟨(iN (-1)), 1, []⟩
theorem S14545_ok : SumOk Tryz.prog 371 [tx87, tx68] S14545 := SumOk.of_run (K := K_SQ0a) (n := 5000) (keep := []) mixed K_SQ0a_ok (by kernel_rfl) (by as_aux_lemma => kernel_rfl)

noncomputable def S14543 : Sum := ⟨(.tup [(.so 12 0 6 1), bT]), 13, [(12, (.cells 6 true [] (T.ofList 0 .leaf [(.int .u16 83), (.int .u16 121), (.int .u16 115), (.int .u16 116), (.int .u16 101), (.int .u16 109)])))]⟩
theorem S14543_ok : SumOk Tryz.prog 200 [tx87] S14543 := SumOk.of_run (K := K_SQ0a) (n := 5000) (keep := [12]) mixed K_SQ0a_ok (by kernel_rfl) (by as_aux_lemma => kernel_rfl)

noncomputable def S14500 : Sum := ⟨(.sl 0 0 3 3), 1, [(0, (.cells 3 false [tx4] (T.ofList 0 .leaf [tx92, tx100, tx87])))]⟩
theorem S14500_ok : SumOk Tryz.prog 426 [tx19, tx102, z0, (iN (-1))] S14500 := SumOk.of_run (K := K_SQ0a) (n := 5000) (keep := [0]) mixed K_SQ0a_ok (by kernel_rfl) (by as_aux_lemma => kernel_rfl)

noncomputable def S14489 : Sum := ⟨(.tup [(.so 32 0 16 1), bT]), 33, [(32, (.cells 16 true [] (T.ofList 0 .leaf [(.int .u16 106), (.int .u16 97), (.int .u16 118), (.int .u16 97), (.int .u16 47), (.int .u16 108), (.int .u16 97), (.int .u16 110), (.int .u16 103), (.int .u16 47), (.int .u16 83), (.int .u16 121), (.int .u16 115), (.int .u16 116), (.int .u16 101), (.int .u16 109)])))]⟩
theorem S14489_ok : SumOk Tryz.prog 200 [tx19] S14489 := SumOk.of_run (K := K_SQ0a) (n := 5000) (keep := [32]) mixed K_SQ0a_ok (by kernel_rfl) (by as_aux_lemma => kernel_rfl)

noncomputable def S14442 : Sum := ⟨bT, 5, []⟩
theorem S14442_ok : SumOk Tryz.prog 299 [tx61] S14442 := SumOk.of_run (K := K_SQ0a) (n := 5000) (keep := []) mixed K_SQ0a_ok (by kernel_rfl) (by as_aux_lemma => kernel_rfl)

noncomputable def S14418 : Sum := ⟨bT, 2, []⟩
theorem S14418_ok : SumOk Tryz.prog 305 [tx13, tx29, (iN 10)] S14418 := SumOk.of_run (K := K_SQ0a) (n := 5000) (keep := []) mixed K_SQ0a_ok (by kernel_rfl) (by as_aux_lemma => kernel_rfl)

noncomputable def S14373 : Sum := ⟨(iN (-1)), 1, []⟩
theorem S14373_ok : SumOk Tryz.prog 371 [tx13, tx68] S14373 := SumOk.of_run (K := K_SQ0a) (n := 5000) (keep := []) mixed K_SQ0a_ok (by kernel_rfl) (by as_aux_lemma => kernel_rfl)

noncomputable def S14358 : Sum := ⟨(.tup [(.so 12 0 6 1), bT]), 13, [(12, (.cells 6 true [] (T.ofList 0 .leaf [(.int .u16 60), (.int .u16 105), (.int .u16 110), (.int .u16 105), (.int .u16 116), (.int .u16 62)])))]⟩
theorem S14358_ok : SumOk Tryz.prog 200 [tx13] S14358 := SumOk.of_run (K := K_SQ0a) (n := 5000) (keep := [12]) mixed K_SQ0a_ok (by kernel_rfl) (by as_aux_lemma => kernel_rfl)

noncomputable def S14281 : Sum := ⟨(.tup [(.so 32 0 16 1), bT]), 33, [(32, (.cells 16 true [] (T.ofList 0 .leaf [(.int .u16 106), (.int .u16 97), (.int .u16 118), (.int .u16 97), (.int .u16 47), (.int .u16 108), (.int .u16 97), (.int .u16 110), (.int .u16 103), (.int .u16 47), (.int .u16 79), (.int .u16 98), (.int .u16 106), (.int .u16 101), (.int .u16 99), (.int .u16 116)])))]⟩
theorem S14281_ok : SumOk Tryz.prog 200 [tx3] S14281 := SumOk.of_run (K := K_SQ0a) (n := 5000) (keep := [32]) mixed K_SQ0a_ok (by kernel_rfl) (by as_aux_lemma => kernel_rfl)

noncomputable def I6703 : In := ⟨184, [(pN 3256), (.fn (.func 185) [] [(pN 6843)])], 6851, [q405, (6725, (.cells 1 true [] (T.ofList 0 .leaf [(uN 76)]))), (6821, (.cells 1 true [] (T.ofList 0 .leaf [(uN 76)]))), q406, q407, q408, q409, (6843, (.cells 1 false [] (T.ofList 0 .leaf [(.map 6842)])))], (.map 6851), 6859, [(3256, (.cells 5 false [] (T.ofList 0 .leaf [(pN 3), (.so 6824 0 8 1), (.so 6858 0 3 1), (.so 6823 0 3 3), (.map 3255)]))), (6725, (.cells 1 true [] (T.ofList 0 .leaf [(uN 76)]))), (6821, (.cells 1 true [] (T.ofList 0 .leaf [(uN 76)]))), q406, q407, q408, q409, (6843, (.cells 1 false [] (T.ofList 0 .leaf [(.map 6842)]))), (6851, (.map [(z1, z1, 0), ((iN 3), (iN 3), 1), ((iN 6), (iN 6), 2)] 3))]⟩
theorem I6703_ok : InOk Tryz.prog I6703 := InOk.of_run (K := K_SQ0a) (n := 5000) mixed K_SQ0a_ok (by kernel_rfl) (by as_aux_lemma => kernel_rfl)

noncomputable def S5693 : Sum := ⟨(.tup [(.so 5 0 1 4), (.agg [(uN 86), tx4, z0, (uN 0)]), bT]), 6, [q411]⟩
theorem S5693_ok : SumOk Tryz.prog 160 [tx65] S5693 := SumOk.of_run (K := K_SQ0a) (n := 5000) (keep := [5]) mixed K_SQ0a_ok (by kernel_rfl) (by as_aux_lemma => kernel_rfl)

noncomputable def S5664 : Sum := ⟨(.tup [(.so 5 0 1 4), (.agg [(uN 86), tx4, z0, (uN 0)]), bT]), 6, [q412]⟩
theorem S5664_ok : SumOk Tryz.prog 160 [tx64] S5664 := SumOk.of_run (K := K_SQ0a) (n := 5000) (keep := [5]) mixed K_SQ0a_ok (by kernel_rfl) (by as_aux_lemma => kernel_rfl)

noncomputable def S5636 : Sum := ⟨(.tup [(.so 5 0 1 4), (.agg [(uN 86), tx4, z0, (uN 0)]), bT]), 6, [q413]⟩
theorem S5636_ok : SumOk Tryz.prog 160 [tx63] S5636 := SumOk.of_run (K := K_SQ0a) (n := 5000) (keep := [5]) mixed K_SQ0a_ok (by kernel_rfl) (by as_aux_lemma => kernel_rfl)

noncomputable def S5609 : Sum := ⟨(.tup [(.so 5 0 1 4), (.agg [(uN 86), tx4, z0, (uN 0)]), bT]), 6, [q326]⟩
theorem S5609_ok : SumOk Tryz.prog 160 [tx62] S5609 := SumOk.of_run (K := K_SQ0a) (n := 5000) (keep := [5]) mixed K_SQ0a_ok (by kernel_rfl) (by as_aux_lemma => kernel_rfl)

noncomputable def S3898 : Sum := ⟨(.tup [(.so 5 0 1 4), (.agg [(uN 67), tx4, z0, (uN 0)]), bT]), 11, [q326]⟩
theorem S3898_ok : SumOk Tryz.prog 160 [tx93] S3898 := SumOk.of_run (K := K_SQ0a) (n := 5000) (keep := [5]) mixed K_SQ0a_ok (by kernel_rfl) (by as_aux_lemma => kernel_rfl)

noncomputable def S3876 : Sum := ⟨(.tup [.nils, (.agg [(uN 73), tx4, z0, (uN 0)]), bT]), 6, []⟩
theorem S3876_ok : SumOk Tryz.prog 160 [tx84] S3876 := SumOk.of_run (K := K_SQ0a) (n := 5000) (keep := []) mixed K_SQ0a_ok (by kernel_rfl) (by as_aux_lemma => kernel_rfl)

noncomputable def S3679 : Sum := ⟨(iN 22), 33, []⟩
theorem S3679_ok : SumOk Tryz.prog 198 [tx19, tx101, tx49] S3679 := SumOk.of_run (K := K_SQ0a) (n := 5000) (keep := []) mixed K_SQ0a_ok (by kernel_rfl) (by as_aux_lemma => kernel_rfl)

noncomputable def S3198 : Sum := ⟨(iN (-1)), 1, []⟩
theorem S3198_ok : SumOk Tryz.prog 371 [tx88, tx68] S3198 := SumOk.of_run (K := K_SQ0a) (n := 5000) (keep := []) mixed K_SQ0a_ok (by kernel_rfl) (by as_aux_lemma => kernel_rfl)

noncomputable def S3196 : Sum := ⟨(.tup [(.so 12 0 6 1), bT]), 13, [(12, (.cells 6 true [] (T.ofList 0 .leaf [(.int .u16 83), (.int .u16 116), (.int .u16 114), (.int .u16 105), (.int .u16 110), (.int .u16 103)])))]⟩
theorem S3196_ok : SumOk Tryz.prog 200 [tx88] S3196 := SumOk.of_run (K := K_SQ0a) (n := 5000) (keep := [12]) mixed K_SQ0a_ok (by kernel_rfl) (by as_aux_lemma => kernel_rfl)

noncomputable def S3153 : Sum := ⟨(.sl 0 0 3 3), 1, [(0, (.cells 3 false [tx4] (T.ofList 0 .leaf [tx92, tx100, tx88])))]⟩
theorem S3153_ok : SumOk Tryz.prog 426 [tx5, tx102, z0, (iN (-1))] S3153 := SumOk.of_run (K := K_SQ0a) (n := 5000) (keep := [0]) mixed K_SQ0a_ok (by kernel_rfl) (by as_aux_lemma => kernel_rfl)

noncomputable def S3129 : Sum := ⟨(iN 3), 9, []⟩
theorem S3129_ok : SumOk Tryz.prog 198 [tx3, tx31, tx10] S3129 := SumOk.of_run (K := K_SQ0a) (n := 5000) (keep := []) mixed K_SQ0a_ok (by kernel_rfl) (by as_aux_lemma => kernel_rfl)

noncomputable def S3102 : Sum := ⟨(iN (-1)), 1, []⟩
theorem S3102_ok : SumOk Tryz.prog 371 [tx89, tx68] S3102 := SumOk.of_run (K := K_SQ0a) (n := 5000) (keep := []) mixed K_SQ0a_ok (by kernel_rfl) (by as_aux_lemma => kernel_rfl)

noncomputable def S3100 : Sum := ⟨(.tup [(.so 12 0 6 1), bT]), 13, [(12, (.cells 6 true [] (T.ofList 0 .leaf [(.int .u16 79), (.int .u16 98), (.int .u16 106), (.int .u16 101), (.int .u16 99), (.int .u16 116)])))]⟩
theorem S3100_ok : SumOk Tryz.prog 200 [tx89] S3100 := SumOk.of_run (K := K_SQ0a) (n := 5000) (keep := [12]) mixed K_SQ0a_ok (by kernel_rfl) (by as_aux_lemma => kernel_rfl)

noncomputable def S3082 : Sum := ⟨bT, 10, []⟩
theorem S3082_ok : SumOk Tryz.prog 228 [tx100] S3082 := SumOk.of_run (K := K_SQ0a) (n := 5000) (keep := []) mixed K_SQ0a_ok (by kernel_rfl) (by as_aux_lemma => kernel_rfl)

noncomputable def S3065 : Sum := ⟨bT, 10, []⟩
theorem S3065_ok : SumOk Tryz.prog 228 [tx92] S3065 := SumOk.of_run (K := K_SQ0a) (n := 5000) (keep := []) mixed K_SQ0a_ok (by kernel_rfl) (by as_aux_lemma => kernel_rfl)

noncomputable def S3057 : Sum := ⟨(.sl 0 0 3 3), 1, [(0, (.cells 3 false [tx4] (T.ofList 0 .leaf [tx92, tx100, tx89])))]⟩
theorem S3057_ok : SumOk Tryz.prog 426 [tx3, tx102, z0, (iN (-1))] S3057 := SumOk.of_run (K := K_SQ0a) (n := 5000) (keep := [0]) mixed K_SQ0a_ok (by kernel_rfl) (by as_aux_lemma => kernel_rfl)

noncomputable def S3035 : Sum := ⟨z2, 8, []⟩
theorem S3035_ok : SumOk Tryz.prog 198 [tx3, tx69, tx38] S3035 := SumOk.of_run (K := K_SQ0a) (n := 5000) (keep := []) mixed K_SQ0a_ok (by kernel_rfl) (by as_aux_lemma => kernel_rfl)

noncomputable def S2638 : Sum := ⟨(.tup [tx3, (.so 14 0 8 3), bT]), 15, [(14, (.cells 24 true [] (T.ofList 0 .leaf [tx13, tx29, bF, tx50, tx45, bF, tx50, tx52, bF, tx50, tx53, bF, tx50, tx54, bF, tx50, tx55, bF, tx81, tx84, bF, tx31, tx10, bF])))]⟩
theorem S2638_ok : SumOk Tryz.prog 73 [tx2] S2638 := SumOk.of_run (K := K_SQ0a) (n := 5000) (keep := [14]) mixed K_SQ0a_ok (by kernel_rfl) (by as_aux_lemma => kernel_rfl)

noncomputable def S2629 : Sum := ⟨(.tup [tx3, (.so 10 0 10 3), bT]), 11, [(10, (.cells 30 true [] (T.ofList 0 .leaf [tx81, tx84, bF, tx97, tx93, bF, tx98, tx48, bF, tx69, tx38, bF, tx99, tx10, bF, tx31, tx10, bF, tx56, tx57, bT, tx56, tx58, bT, tx56, tx59, bT, tx56, tx60, bT])))]⟩
theorem S2629_ok : SumOk Tryz.prog 73 [tx5] S2629 := SumOk.of_run (K := K_SQ0a) (n := 5000) (keep := [10]) mixed K_SQ0a_ok (by kernel_rfl) (by as_aux_lemma => kernel_rfl)

noncomputable def S461 : Sum := ⟨(.so 28 0 13 3), 29, [(28, (.cells 39 true [] (T.ofList 0 .leaf [tx27, tx6, bF, tx27, tx62, bF, tx27, tx63, bF, tx27, tx64, bF, tx27, tx65, bF, tx27, tx17, bF, tx15, tx6, bF, tx15, tx62, bF, tx15, tx63, bF, tx15, tx64, bF, tx15, tx65, bF, tx15, tx17, bF, tx15, tx29, bF])))]⟩
theorem S461_ok : SumOk Tryz.prog 110 [tx0] S461 := SumOk.of_run (K := K_SQ0a) (n := 5000) (keep := [28]) mixed K_SQ0a_ok (by kernel_rfl) (by as_aux_lemma => kernel_rfl)

noncomputable def I92 : In := ⟨108, [(.so 163 0 33 1), z0, (iN 33), (iN 6)], 164, [(163, (.cells 33 true [] (T.ofList 0 .leaf [tx3, tx5, tx2, tx19, tx0, tx12, tx46, tx26, tx16, tx20, tx43, tx24, tx33, tx32, tx11, tx18, tx47, tx44, tx42, tx40, tx35, tx41, tx28, tx9, tx14, tx36, tx34, tx22, tx30, tx39, tx37, tx23, tx21])))], (.tup []), 168, [(163, (.cells 33 true [] (T.ofList 0 .leaf [tx0, tx35, tx36, tx22, tx37, tx39, tx32, tx43, tx26, tx46, tx28, tx40, tx23, tx11, tx20, tx41, tx18, tx30, tx33, tx44, tx42, tx34, tx3, tx14, tx16, tx9, tx5, tx2, tx21, tx19, tx12, tx24, tx47])))]⟩
theorem I92_ok : InOk Tryz.prog I92 := InOk.of_run (K := K_SQ0a) (n := 5000) mixed K_SQ0a_ok (by kernel_rfl) (by as_aux_lemma => kernel_rfl)

noncomputable def S8 : Sum := ⟨(.so 75 0 28 2), 76, [(75, (.cells 56 true [] (T.ofList 0 .leaf [tx12, tx3, tx46, tx12, tx26, tx12, tx16, tx46, tx20, tx16, tx43, tx18, tx24, tx18, tx33, tx18, tx32, tx18, tx11, tx18, tx18, tx26, tx47, tx18, tx44, tx11, tx42, tx11, tx40, tx11, tx35, tx11, tx41, tx11, tx28, tx18, tx9, tx26, tx14, tx26, tx36, tx16, tx34, tx16, tx22, tx20, tx30, tx16, tx39, tx16, tx37, tx16, tx23, tx16, tx21, tx20])))]⟩
theorem S8_ok : SumOk Tryz.prog 71 [] S8 := SumOk.of_run (K := K_SQ0a) (n := 5000) (keep := [75]) mixed K_SQ0a_ok (by kernel_rfl) (by as_aux_lemma => kernel_rfl)

noncomputable def tab_SQ0a : List (FuncId × SRows) := (71, [([], S8)]) :: (110, [([tx0], S461)]) :: (73, [([tx2], S2638), ([tx5], S2629)]) :: (198, [([tx19, tx101, tx49], S3679), ([tx3, tx31, tx10], S3129), ([tx3, tx69, tx38], S3035)]) :: (305, [([tx13, tx29, (iN 10)], S14418)]) :: (426, [([tx0, tx102, z0, (iN (-1))], S14584), ([tx19, tx102, z0, (iN (-1))], S14500), ([tx5, tx102, z0, (iN (-1))], S3153), ([tx3, tx102, z0, (iN (-1))], S3057)]) :: (306, [([tx72, tx68], S14639)]) :: (200, [([tx71], S15076), ([tx10], S15074), ([tx31], S15072), ([tx17], S14795), ([tx15], S14793), ([tx0], S14728), ([tx75], S14621), ([tx25], S14568), ([tx87], S14543), ([tx19], S14489), ([tx13], S14358), ([tx3], S14281), ([tx88], S3196), ([tx89], S3100)]) :: (371, [([tx31, tx106], S15533), ([tx31, tx68], S15506), ([tx15, tx106], S15044), ([tx15, tx68], S14808), ([tx75, tx68], S14623), ([tx87, tx68], S14545), ([tx13, tx68], S14373), ([tx88, tx68], S3198), ([tx89, tx68], S3102)]) :: (299, [([tx66], S16903), ([tx61], S14442)]) :: (160, [([tx74], S17139), ([tx65], S5693), ([tx64], S5664), ([tx63], S5636), ([tx62], S5609), ([tx93], S3898), ([tx84], S3876)]) :: (228, [([tx77], S17156), ([(.str 2 28521)], S14609), ([tx100], S3082), ([tx92], S3065)]) :: (261, [([(iN 172)], S17276), ([(iN 89)], S17252), ([(iN 187)], S17245), ([(iN 176)], S15673), ([(iN 182)], S15659), ([(iN 179)], S15641), ([(iN 100)], S15635), ([(iN 158)], S15617), ([(iN 178)], S15610), ([(iN 177)], S15347), ([(iN 183)], S15340)]) :: (263, [([(iN 172)], S17364), ([(iN 3)], S17359), ([(iN 89)], S17316), ([(iN 187)], S17301), ([(iN 176)], S15751), ([(iN 19)], S15744), ([(iN 182)], S15725), ([(iN 179)], S15708), ([(iN 100)], S15703), ([(iN 4)], S15698), ([(iN 158)], S15687), ([(iN 178)], S15681), ([(iN 177)], S15379), ([(iN 183)], S15360), ([(iN 42)], S15355)]) :: (530, [([tx0, (uN 47)], S19622)]) :: []
theorem tab_SQ0a_ok : TabOk Tryz.prog tab_SQ0a := (TabOk.cons (RowsOk.cons S8_ok RowsOk.nil) (TabOk.cons (RowsOk.cons S461_ok RowsOk.nil) (TabOk.cons (RowsOk.cons S2638_ok (RowsOk.cons S2629_ok RowsOk.nil)) (TabOk.cons (RowsOk.cons S3679_ok (RowsOk.cons S3129_ok (RowsOk.cons S3035_ok RowsOk.nil))) (TabOk.cons (RowsOk.cons S14418_ok RowsOk.nil) (TabOk.cons (RowsOk.cons S14584_ok (RowsOk.cons S14500_ok (RowsOk.cons S3153_ok (RowsOk.cons S3057_ok RowsOk.nil)))) (TabOk.cons (RowsOk.cons S14639_ok RowsOk.nil) (TabOk.cons (RowsOk.cons S15076_ok (RowsOk.cons S15074_ok (RowsOk.cons S15072_ok (RowsOk.cons S14795_ok (RowsOk.cons S14793_ok (RowsOk.cons S14728_ok (RowsOk.cons S14621_ok (RowsOk.cons S14568_ok (RowsOk.cons S14543_ok (RowsOk.cons S14489_ok (RowsOk.cons S14358_ok (RowsOk.cons S14281_ok (RowsOk.cons S3196_ok (RowsOk.cons S3100_ok RowsOk.nil)))))))))))))) (TabOk.cons (RowsOk.cons S15533_ok (RowsOk.cons S15506_ok (RowsOk.cons S15044_ok (RowsOk.cons S14808_ok (RowsOk.cons S14623_ok (RowsOk.cons S14545_ok (RowsOk.cons S14373_ok (RowsOk.cons S3198_ok (RowsOk.cons S3102_ok RowsOk.nil))))))))) (TabOk.cons (RowsOk.cons S16903_ok (RowsOk.cons S14442_ok RowsOk.nil)) (TabOk.cons (RowsOk.cons S17139_ok (RowsOk.cons S5693_ok (RowsOk.cons S5664_ok (RowsOk.cons S5636_ok (RowsOk.cons S5609_ok (RowsOk.cons S3898_ok (RowsOk.cons S3876_ok RowsOk.nil))))))) (TabOk.cons (RowsOk.cons S17156_ok (RowsOk.cons S14609_ok (RowsOk.cons S3082_ok (RowsOk.cons S3065_ok RowsOk.nil)))) (TabOk.cons (RowsOk.cons S17276_ok (RowsOk.cons S17252_ok (RowsOk.cons S17245_ok (RowsOk.cons S15673_ok (RowsOk.cons S15659_ok (RowsOk.cons S15641_ok (RowsOk.cons S15635_ok (RowsOk.cons S15617_ok (RowsOk.cons S15610_ok (RowsOk.cons S15347_ok (RowsOk.cons S15340_ok RowsOk.nil))))))))))) (TabOk.cons (RowsOk.cons S17364_ok (RowsOk.cons S17359_ok (RowsOk.cons S17316_ok (RowsOk.cons S17301_ok (RowsOk.cons S15751_ok (RowsOk.cons S15744_ok (RowsOk.cons S15725_ok (RowsOk.cons S15708_ok (RowsOk.cons S15703_ok (RowsOk.cons S15698_ok (RowsOk.cons S15687_ok (RowsOk.cons S15681_ok (RowsOk.cons S15379_ok (RowsOk.cons S15360_ok (RowsOk.cons S15355_ok RowsOk.nil))))))))))))))) (TabOk.cons (RowsOk.cons S19622_ok RowsOk.nil) TabOk.nil)))))))))))))))
noncomputable def H_SQ0a : Hand := (((Hand.at 108 (inHand I92)).or ((Hand.at 184 (inHand I6703)).or (Hand.at 66 (inHand I18004)))).or (sumsHand tab_SQ0a))
theorem H_SQ0a_ok : HandOk Tryz.prog H_SQ0a := (HandOk.or (HandOk.or (HandOk.at 108 (inHand_ok I92_ok (by kernel_rfl))) (HandOk.or (HandOk.at 184 (inHand_ok I6703_ok (by kernel_rfl))) (HandOk.at 66 (inHand_ok I18004_ok (by kernel_rfl))))) (sumsHand_ok tab_SQ0a_ok))
end Go.Proofs.YtbgkinjicnnkiaaGreatDoor.sq
