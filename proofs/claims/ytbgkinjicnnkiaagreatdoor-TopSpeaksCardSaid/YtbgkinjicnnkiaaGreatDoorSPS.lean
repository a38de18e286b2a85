/-
  States of the machine within the law TopSpeaks.
-/
import Derived.Test.YtbgkinjicnnkiaaGreatDoorSNN
import Derived.Test.YtbgkinjicnnkiaaGreatDoorXN3
import Derived.Test.YtbgkinjicnnkiaaGreatDoorSPX
import Derived.Test.YtbgkinjicnnkiaaGreatDoorProg
import Derived.KernelRfl
set_option linter.unusedSectionVars false
set_option linter.unusedVariables false
set_option maxRecDepth 1000000
set_option maxHeartbeats 0
namespace Go.Proofs.YtbgkinjicnnkiaaGreatDoor.sp
open Go.X Go.RowKit Go.Proofs.YtbgkinjicnnkiaaGreatDoor
theorem hOf_congr {N : Nat} {a b : BS} (h : bsOf a = bsOf b) : hOf N a = hOf N b := by unfold hOf; rw [h]
theorem mixed : Tryz.prog.follows .mixedOrders = true := by kernel_rfl
noncomputable def fullR : Code := (Tryz.f51.body).getD .skip
noncomputable def la : Code := lpOf (restn 2 fullR)
noncomputable def tl : Code := tlOf (restn 2 fullR)
noncomputable abbrev fsR : List (Nat × AV) := [(0, .ptr 14321 0), (10, .ptr 30000 0)]
noncomputable abbrev kb0 : Blk := (.map [(tx61, (pN 14616), 0), (tx66, (pN 16430), 1)] 2)
noncomputable abbrev kb1 : Blk := (.map [(tx0, (pN 7914), 0), (tx35, (pN 8062), 1), (tx36, (pN 8171), 2), (tx22, (pN 8282), 3), (tx37, (pN 8396), 4), (tx39, (pN 8509), 5), (tx32, (pN 8606), 6), (tx43, (pN 8700), 7), (tx26, (pN 8791), 8), (tx46, (pN 8881), 9), (tx28, (pN 8987), 10), (tx40, (pN 9090), 11), (tx23, (pN 9205), 12), (tx11, (pN 9303), 13), (tx20, (pN 9396), 14), (tx41, (pN 9501), 15), (tx18, (pN 9600), 16), (tx30, (pN 9712), 17), (tx33, (pN 9808), 18), (tx44, (pN 9909), 19), (tx42, (pN 10011), 20), (tx34, (pN 10121), 21), (tx3, (pN 10132), 22), (tx14, (pN 10243), 23), (tx16, (pN 10335), 24), (tx9, (pN 10442), 25), (tx5, (pN 10463), 26), (tx2, (pN 10520), 27), (tx21, (pN 10660), 28), (tx19, (pN 10672), 29), (tx12, (pN 10760), 30), (tx24, (pN 10860), 31), (tx47, (pN 10960), 32)] 33)
noncomputable abbrev kb2 : Blk := (.cells 3 false [] (T.ofList 0 .leaf [(.map 7716), (.map 7717), (.so 17787 0 2 1)]))
noncomputable abbrev kb3 : Blk := (.cells 8 false [] (T.ofList 0 .leaf [(iN 52), .nils, (iN 49), tx0, tx3, .nils, .nils, (.so 7967 0 13 9)]))
noncomputable abbrev kb4 : Blk := (.cells 117 true [] (T.ofList 0 .leaf [z1, tx27, tx6, bF, z0, z0, .nils, .nils, .nils, z1, tx27, tx62, bF, z0, z0, .nils, .nils, .nils, z1, tx27, tx63, bF, z0, z0, .nils, .nils, .nils, z1, tx27, tx64, bF, z0, z0, .nils, .nils, .nils, z1, tx27, tx65, bF, z0, z0, .nils, .nils, .nils, z1, tx27, tx17, bF, z0, z0, .nils, .nils, .nils, z1, tx15, tx6, bF, z0, z0, .nils, .nils, .nils, z1, tx15, tx62, bF, z0, z0, .nils, .nils, .nils, z1, tx15, tx63, bF, z0, z0, .nils, .nils, .nils, z1, tx15, tx64, bF, z0, z0, .nils, .nils, .nils, z1, tx15, tx65, bF, z0, z0, .nils, .nils, .nils, z1, tx15, tx17, bF, z0, z0, .nils, .nils, .nils, z1, tx15, tx29, bF, z0, z0, .nils, .nils, .nils]))
noncomputable abbrev kb5 : Blk := (.cells 8 false [] (T.ofList 0 .leaf [(iN 52), .nils, (iN 33), tx3, tx4, .nils, .nils, (.so 10144 0 3 9)]))
noncomputable abbrev kb6 : Blk := (.cells 27 true [] (T.ofList 0 .leaf [z1, tx13, tx29, bF, z0, z0, .nils, .nils, .nils, z1, tx69, tx38, bF, z0, z0, .nils, .nils, .nils, z1, tx31, tx10, bF, z0, z0, .nils, .nils, .nils]))
noncomputable abbrev kb7 : Blk := (.cells 8 false [] (T.ofList 0 .leaf [(iN 52), .nils, (iN 49), tx5, tx3, .nils, .nils, (.so 10504 0 10 9)]))
noncomputable abbrev kb8 : Blk := (.cells 8 false [] (T.ofList 0 .leaf [(iN 52), .nils, (iN 49), tx19, tx3, .nils, (.sl 10678 0 1 1), (.so 10677 0 1 9)]))
noncomputable abbrev kb9 : Blk := (.cells 4 false [] (T.ofList 0 .leaf [(iN 25), tx72, tx25, z0]))
noncomputable abbrev kb10 : Blk := (.map [(tx0, z0, 0), (tx9, z1, 1), (tx14, z2, 2), (tx61, (iN 3), 3)] 4)
noncomputable abbrev kb11 : Blk := (.cells 5 false [] (T.ofList 0 .leaf [(pN 7718), (.so 20315 0 10 1), (.so 20317 0 4 1), (.so 20314 0 4 3), (.map 10970)]))
noncomputable abbrev kb12 : Blk := (.cells 3 false [] (T.ofList 0 .leaf [(pN 10971), .nils, (.map 10972)]))
noncomputable abbrev kb13 : Blk := (.cells 7 false [] (T.ofList 0 .leaf [(pN 10971), (pN 10973), (pN 7718), (.so 11691 0 39 3), .nils, bF, bF]))
noncomputable abbrev kb14 : Blk := (.cells 117 true [] (T.ofList 0 .leaf [tx4, z0, .nilf, tx3, z1, (.fn (.func 114) [] []), tx3, z2, (.fn (.func 115) [] []), tx3, z1, (.fn (.func 116) [] []), tx5, z1, (.fn (.func 120) [] []), tx5, z2, (.fn (.func 121) [] []), tx5, z2, (.fn (.func 122) [] []), tx5, z2, (.fn (.func 123) [] []), tx5, z1, (.fn (.func 124) [] []), tx5, z1, (.fn (.func 125) [] []), tx4, z1, (.fn (.func 126) [] [(pN 12185)]), tx4, z1, (.fn (.func 126) [] [(pN 12258)]), tx4, z1, (.fn (.func 126) [] [(pN 12332)]), tx4, z1, (.fn (.func 126) [] [(pN 12407)]), tx2, z1, (.fn (.func 129) [] []), tx2, z2, (.fn (.func 130) [] [(pN 12519)]), tx2, z2, (.fn (.func 130) [] [(pN 12651)]), tx2, z2, (.fn (.func 130) [] [(pN 12749)]), tx2, z2, (.fn (.func 130) [] [(pN 12848)]), tx2, z2, (.fn (.func 130) [] [(pN 12948)]), tx2, z1, (.fn (.func 135) [] []), tx2, z1, (.fn (.func 136) [] []), tx4, (iN 5), (.fn (.func 119) [] []), tx0, z2, (.fn (.func 137) [] [(pN 13180), (pN 13178)]), tx0, z2, (.fn (.func 137) [] [(pN 13286), (pN 13178)]), tx0, z2, (.fn (.func 137) [] [(pN 13358), (pN 13178)]), tx0, z2, (.fn (.func 137) [] [(pN 13431), (pN 13178)]), tx0, z2, (.fn (.func 137) [] [(pN 13505), (pN 13178)]), tx0, z2, (.fn (.func 137) [] [(pN 13580), (pN 13178)]), tx0, z2, (.fn (.func 137) [] [(pN 13693), (pN 13691)]), tx0, z2, (.fn (.func 137) [] [(pN 13805), (pN 13691)]), tx0, z2, (.fn (.func 137) [] [(pN 13883), (pN 13691)]), tx0, z2, (.fn (.func 137) [] [(pN 13962), (pN 13691)]), tx0, z2, (.fn (.func 137) [] [(pN 14042), (pN 13691)]), tx0, z2, (.fn (.func 137) [] [(pN 14123), (pN 13691)]), tx0, z1, (.fn (.func 139) [] []), tx12, z1, (.fn (.func 114) [] []), tx12, z2, (.fn (.func 117) [] []), tx12, z1, (.fn (.func 118) [] [])]))
noncomputable abbrev kb15 : Blk := (.cells 1 false [] (T.ofList 0 .leaf [tx51]))
noncomputable abbrev kb16 : Blk := (.cells 4 false [] (T.ofList 0 .leaf [(.ov 30001 6 1), (.ov 30002 6 1), (.ov 30003 7 7), (oN 2)]))
noncomputable abbrev kb17 : Blk := (.map [(tx66, (pN 18694), 0), (tx3, (pN 18699), 1), (tx61, (pN 18799), 2), (tx19, (pN 20208), 3)] 4)
noncomputable abbrev kb18 : Blk := (.map [(tx66, z0, 0), (tx61, z1, 1)] 2)
noncomputable abbrev kb19 : Blk := (.map [(tx8, (iN 7), 0), (tx7, (iN 3), 1), (tx1, (oN 3), 2)] 3)
noncomputable abbrev kb20 : Blk := (.cells 32 false [] (T.ofList 0 .leaf [(pN 7718), (pN 10976), (pN 10971), (pN 10973), (pN 10977), (pN 14317), (.ov 30004 7 1), (.map 14318), (.map 14319), .nils, z1, (iN 3), (iN 6), z0, .nilp, bT, (iN 2000), (oN 1), z0, z1, z0, z0, (uN 0), z0, tx4, tx4, bF, z0, .nils, z0, z0, (.map 14320)]))
noncomputable abbrev kb21 : Blk := (.cells 8 false [] (T.ofList 0 .leaf [(iN 52), (.sl 14618 0 31 31), (iN 33), tx61, tx3, .nils, (.so 15654 0 1 4), (.so 16333 0 2 9)]))
noncomputable abbrev kb22 : Blk := (.cells 155 false [z0, tx4, z0, z0, z0] (ofPairs [(5, z1), (6, tx3), (7, z0), (8, z0), (9, z0), (10, (iN 7)), (11, tx4), (12, z0), (13, z1), (14, z0), (15, z1), (16, tx13), (17, z0), (18, z0), (19, z0), (20, z1), (21, tx29), (22, z0), (23, z0), (24, z0), (25, (iN 12)), (26, tx4), (27, z0), (28, (iN 3)), (29, (iN 4)), (30, (iN 10)), (31, tx4), (32, z0), (33, z2), (34, (iN 5)), (35, z1), (36, tx78), (37, z0), (38, z0), (39, z0), (40, z1), (41, tx79), (42, z0), (43, z0), (44, z0), (45, z1), (46, tx83), (47, z0), (48, z0), (49, z0), (50, z1), (51, tx61), (52, z0), (53, z0), (54, z0), (55, (iN 7)), (56, tx4), (57, z0), (58, (iN 10)), (59, z0), (60, (iN 12)), (61, tx4), (62, z0), (63, (iN 8)), (64, (iN 9)), (65, (iN 9)), (66, tx4), (67, z0), (68, (iN 11)), (69, (iN 12)), (70, z1), (71, tx19), (72, z0), (73, z0), (74, z0), (75, (iN 7)), (76, tx4), (77, z0), (78, (iN 14)), (79, z0), (80, z1), (81, tx72), (82, z0), (83, z0), (84, z0), (85, z1), (86, tx25), (87, z0), (88, z0), (89, z0), (90, (iN 12)), (91, tx4), (92, z0), (93, (iN 16)), (94, (iN 17)), (95, (iN 9)), (96, tx4), (97, z0), (98, (iN 15)), (99, (iN 18)), (100, z1), (101, tx0), (102, z0), (103, z0), (104, z0), (105, (iN 7)), (106, tx4), (107, z0), (108, (iN 20)), (109, z0), (110, z1), (111, tx15), (112, z0), (113, z0), (114, z0), (115, z1), (116, tx17), (117, z0), (118, z0), (119, z0), (120, (iN 12)), (121, tx4), (122, z0), (123, (iN 22)), (124, (iN 23)), (125, (iN 10)), (126, tx4), (127, z0), (128, (iN 21)), (129, (iN 24)), (130, z1), (131, tx67), (132, z0), (133, z0), (134, z0), (135, (iN 8)), (136, tx4), (137, z0), (138, (iN 26)), (139, z0), (140, z1), (141, tx31), (142, z0), (143, z0), (144, z0), (145, z1), (146, tx10), (147, z0), (148, z0), (149, z0), (150, z1), (151, tx71), (152, z0), (153, z0), (154, z0)]))
noncomputable abbrev kb23 : Blk := (.cells 4 true [] (T.ofList 0 .leaf [(iN 9), tx79, tx83, z0]))
noncomputable abbrev kb24 : Blk := (.cells 25 true [] (T.ofList 0 .leaf [(uN 178), (uN 0), (uN 13), (uN 158), (uN 0), (uN 18), (uN 178), (uN 0), (uN 13), (uN 4), (uN 100), (uN 179), (uN 0), (uN 13), (uN 178), (uN 0), (uN 19), (uN 42), (uN 182), (uN 0), (uN 25), (uN 19), (uN 0), (uN 27), (uN 176)]))
noncomputable abbrev kb25 : Blk := (.cells 4 true [] (T.ofList 0 .leaf [(iN 255), (iN 21), (.so 16324 0 1 3), .nils]))
noncomputable abbrev kb26 : Blk := (.cells 18 true [] (T.ofList 0 .leaf [z1, tx13, tx29, bT, z1, z1, (.so 15674 0 5 1), .nils, .nils, z1, tx31, tx10, bT, z2, z1, (.so 15877 0 25 1), .nils, (.so 16327 0 1 4)]))
noncomputable abbrev kb27 : Blk := (.cells 8 false [] (T.ofList 0 .leaf [(iN 52), (.sl 16432 0 30 30), (iN 33), tx66, tx3, .nils, .nils, (.so 17785 0 1 9)]))
noncomputable abbrev kb28 : Blk := (.cells 150 false [z0, tx4, z0, z0, z0] (ofPairs [(5, z1), (6, tx61), (7, z0), (8, z0), (9, z0), (10, (iN 7)), (11, tx4), (12, z0), (13, z1), (14, z0), (15, z1), (16, tx79), (17, z0), (18, z0), (19, z0), (20, z1), (21, tx83), (22, z0), (23, z0), (24, z0), (25, (iN 12)), (26, tx4), (27, z0), (28, (iN 3)), (29, (iN 4)), (30, (iN 9)), (31, tx4), (32, z0), (33, z2), (34, (iN 5)), (35, z1), (36, tx19), (37, z0), (38, z0), (39, z0), (40, (iN 7)), (41, tx4), (42, z0), (43, (iN 7)), (44, z0), (45, z1), (46, tx72), (47, z0), (48, z0), (49, z0), (50, z1), (51, tx25), (52, z0), (53, z0), (54, z0), (55, (iN 12)), (56, tx4), (57, z0), (58, (iN 9)), (59, (iN 10)), (60, (iN 9)), (61, tx4), (62, z0), (63, (iN 8)), (64, (iN 11)), (65, z1), (66, tx13), (67, z0), (68, z0), (69, z0), (70, z1), (71, tx29), (72, z0), (73, z0), (74, z0), (75, (iN 12)), (76, tx4), (77, z0), (78, (iN 13)), (79, (iN 14)), (80, (iN 10)), (81, tx4), (82, z0), (83, z2), (84, (iN 15)), (85, z1), (86, tx0), (87, z0), (88, z0), (89, z0), (90, (iN 7)), (91, tx4), (92, z0), (93, (iN 17)), (94, z0), (95, z1), (96, tx15), (97, z0), (98, z0), (99, z0), (100, z1), (101, tx17), (102, z0), (103, z0), (104, z0), (105, (iN 12)), (106, tx4), (107, z0), (108, (iN 19)), (109, (iN 20)), (110, (iN 10)), (111, tx4), (112, z0), (113, (iN 18)), (114, (iN 21)), (115, z1), (116, tx77), (117, z0), (118, z0), (119, z0), (120, z1), (121, tx74), (122, z0), (123, z0), (124, z0), (125, z1), (126, tx78), (127, z0), (128, z0), (129, z0), (130, z1), (131, tx66), (132, z0), (133, z0), (134, z0), (135, (iN 7)), (136, tx4), (137, z0), (138, (iN 26)), (139, z0), (140, z1), (141, tx3), (142, z0), (143, z0), (144, z0), (145, (iN 7)), (146, tx4), (147, z0), (148, (iN 28)), (149, z0)]))
noncomputable abbrev kb29 : Blk := (.cells 19 true [] (T.ofList 0 .leaf [(uN 26), (uN 179), (uN 0), (uN 6), (uN 178), (uN 0), (uN 12), (uN 187), (uN 0), (uN 2), (uN 89), (uN 183), (uN 0), (uN 16), (uN 182), (uN 0), (uN 22), (uN 3), (uN 172)]))
noncomputable abbrev kb30 : Blk := (.cells 9 true [] (T.ofList 0 .leaf [(iN 9), tx77, tx74, bT, (iN 3), z1, (.so 17419 0 19 1), .nils, .nils]))
noncomputable abbrev kb31 : Blk := (.cells 11 false [] (T.ofList 0 .leaf [z0, z0, (uN 0), z0, tx4, tx4, bF, z0, .nils, z0, z0]))
noncomputable abbrev kb32 : Blk := (.cells 2 false [] (T.ofList 0 .leaf [z2, (.sl 18698 0 0 0)]))
noncomputable abbrev kb33 : Blk := (.cells 2 false [] (T.ofList 0 .leaf [z2, .nils]))
noncomputable abbrev kb34 : Blk := (.cells 2 false [] (T.ofList 0 .leaf [z2, (.sl 20119 0 1 1)]))
noncomputable abbrev kb35 : Blk := (.cells 1 false [z0] (T.ofList 0 .leaf [(oN 0)]))
noncomputable abbrev kb36 : Blk := (.cells 12 true [] (T.ofList 0 .leaf [tx0, .nils, (uN 0), tx9, (.so 14440 0 1 1), (uN 0), tx14, (.so 14536 0 1 1), (uN 0), tx61, .nils, (uN 0)]))
noncomputable abbrev kb37 : Blk := (.cells 10 true [] (T.ofList 0 .leaf [(.int .u64 0), (.int .u64 0), (.int .u64 1), (.int .u64 0), (.int .u64 0), (.int .u64 2), (.int .u64 0), (.int .u64 0), (.int .u64 3), (.int .u64 0)]))
noncomputable abbrev kb38 : Blk := (.cells 4 true [] (T.ofList 0 .leaf [z0, z2, (iN 5), (iN 8)]))
noncomputable abbrev kb39 : Blk := (.cells 6 false [] (T.ofList 0 .leaf [z2, z0, (pN 14616), z1, (iN 3), .nilp]))
noncomputable abbrev kb40 : Blk := (.cells 4 false [] (T.ofList 0 .leaf [(.ov 30001 0 1), (.ov 30002 0 1), (.ov 30003 1 7), (oN 2)]))
noncomputable abbrev kb41 : Blk := (.cells 32 false [] (T.ofList 0 .leaf [(pN 7718), (pN 10976), (pN 10971), (pN 10973), (pN 10977), (pN 14317), (.ov 30004 1 1), (.map 14318), (.map 14319), .nils, z1, (iN 3), (iN 6), z0, .nilp, bT, (iN 2000), (oN 4), z0, z1, z0, z0, (uN 0), z0, tx4, tx4, bF, z0, .nils, z0, z0, (.map 14320)]))
noncomputable abbrev kb42 : Blk := (.cells 6 false [] (T.ofList 0 .leaf [z2, z2, (pN 14616), z1, (iN 18), .nilp]))
noncomputable abbrev kb43 : Blk := (.cells 5 false [] (T.ofList 0 .leaf [(pN 7718), (.so 30022 0 14 1), (.so 30023 0 5 1), (.so 30021 0 5 3), (.map 10970)]))
noncomputable abbrev kb44 : Blk := (.cells 3 false [] (T.ofList 0 .leaf [(pN 10971), (.so 30024 0 1 1), (.map 10972)]))
noncomputable abbrev kb45 : Blk := (.map [(tx8, (iN 7), 0), (tx7, (iN 3), 1), (tx1, (oN 2), 2)] 3)
noncomputable abbrev kb46 : Blk := (.cells 6 false [] (T.ofList 0 .leaf [z2, z0, (pN 14616), z1, (iN 24), .nilp]))
noncomputable abbrev kb47 : Blk := (.cells 15 true [] (T.ofList 0 .leaf [tx0, .nils, (uN 0), tx9, (.so 14440 0 1 1), (uN 0), tx14, (.so 14536 0 1 1), (uN 0), tx61, .nils, (uN 0), tx5, .nils, (uN 67)]))
noncomputable abbrev kb48 : Blk := (.cells 14 true [] (T.ofList 0 .leaf [(.int .u64 0), (.int .u64 0), (.int .u64 1), (.int .u64 0), (.int .u64 0), (.int .u64 2), (.int .u64 0), (.int .u64 0), (.int .u64 3), (.int .u64 0), (.int .u64 4), (.int .u64 0), (.int .u64 2), (.int .u64 6619245)]))
noncomputable abbrev kb49 : Blk := (.cells 5 true [] (T.ofList 0 .leaf [z0, z2, (iN 5), (iN 8), (iN 10)]))
abbrev ivE (v : Int) (r : Int) (wd : Int) (c0 : Int) (s : Nat) (d : Nat) (o : Nat) : Nat → IntKind × Int
  | 0 => (.i64, v)
  | 1 => (.i64, r)
  | 2 => (.i64, wd)
  | 3 => (.i64, c0)
  | 4 => (.i64, ((s : Nat) : Int))
  | 5 => (.i64, ((d : Nat) : Int))
  | 6 => (.i64, ((s + 2 : Nat) : Int))
  | 7 => (.i64, ((d + 1 : Nat) : Int))
  | 8 => (.i64, r + 1)
  | 9 => (.i64, c0 + 1)
  | 10 => (.i64, ((s + 1 : Nat) : Int))
  | 11 => (.i64, r + 2)
  | 12 => (.i64, c0 + 2)
  | 13 => (.i64, r + 3)
  | 14 => (.i64, c0 + 3)
  | 15 => (.i64, ((s + 3 : Nat) : Int))
  | 16 => (.i64, r + 4)
  | 17 => (.i64, c0 + 4)
  | 18 => (.i32, v)
  | 19 => (.i64, v - 1)
  | 20 => (.i32, v - 1)
  | 21 => (.i64, r + 5)
  | 22 => (.i64, c0 + 5)
  | _ => (.i64, 0)
abbrev vvE (s d o : Nat) : Nat → Nat → Option AV
  | 0 => pv (s) 0 [(iN 9), (oN 0)]
  | 1 => pv (s) 1 [bT, bF]
  | 2 => pv (7 * d) 2 [z1, z1, z0, (oN 4), z1, z2, z1]
  | 3 => pv (d) 3 [(pN 30005)]
  | 4 => pv (7 * d) 2 [z1, z1, (iN 3), (oN 4), z1, z2, z1]
  | 5 => pv (7 * d) 2 [z1, z1, (iN 3), (oN 4), z1, z2, z0]
  | 6 => pv (7 * d) 2 [z1, z1, (iN 6), (oN 4), z1, z2, z0]
  | 7 => pv (7 * d) 2 [z1, z1, (iN 6), (oN 4), z1, z2, z1]
  | 8 => pv (7 * d) 2 [z1, z1, (iN 9), (oN 4), z1, z2, z1]
  | 9 => pv (7 * d) 2 [z1, z1, (iN 9), (oN 4), z1, z2, z2]
  | 10 => pv (s) 0 [(iN 9), (oN 0), z1]
  | 11 => pv (s) 1 [bT, bF, bF]
  | 12 => pv (7 * d) 2 [z1, z1, (iN 10), (oN 4), z1, z2, z2]
  | 13 => pv (7 * d) 2 [z1, z1, (iN 10), (oN 4), z1, z2, z0]
  | 14 => pv (7 * d) 2 [z1, z1, (iN 10), (oN 4), z1, z2, z1]
  | 15 => pv (s) 0 [(iN 9), (oN 19)]
  | 16 => pv (7 * d) 2 [z1, z1, (iN 11), (oN 4), z1, z2, z1]
  | 17 => pv (7 * d) 2 [z1, z1, (iN 11), (oN 4), z1, z2, z0]
  | 18 => pv (7 * d) 2 [z1, z1, (iN 21), (oN 4), z1, z2, z0]
  | 19 => pv (7 * d) 2 [z1, z1, (iN 21), (oN 4), z1, z2, z1]
  | 20 => pv (s) 0 [(iN 9), (iN 11)]
  | 21 => pv (s) 1 [bT, bT]
  | _ => fun _ => none
abbrev vkE (s d o : Nat) : Nat → Nat
  | 0 => pk (s) [(iN 9), (oN 0)]
  | 1 => pk (s) [bT, bF]
  | 2 => pk (7 * d) [z1, z1, z0, (oN 4), z1, z2, z1]
  | 3 => pk (d) [(pN 30005)]
  | 4 => pk (7 * d) [z1, z1, (iN 3), (oN 4), z1, z2, z1]
  | 5 => pk (7 * d) [z1, z1, (iN 3), (oN 4), z1, z2, z0]
  | 6 => pk (7 * d) [z1, z1, (iN 6), (oN 4), z1, z2, z0]
  | 7 => pk (7 * d) [z1, z1, (iN 6), (oN 4), z1, z2, z1]
  | 8 => pk (7 * d) [z1, z1, (iN 9), (oN 4), z1, z2, z1]
  | 9 => pk (7 * d) [z1, z1, (iN 9), (oN 4), z1, z2, z2]
  | 10 => pk (s) [(iN 9), (oN 0), z1]
  | 11 => pk (s) [bT, bF, bF]
  | 12 => pk (7 * d) [z1, z1, (iN 10), (oN 4), z1, z2, z2]
  | 13 => pk (7 * d) [z1, z1, (iN 10), (oN 4), z1, z2, z0]
  | 14 => pk (7 * d) [z1, z1, (iN 10), (oN 4), z1, z2, z1]
  | 15 => pk (s) [(iN 9), (oN 19)]
  | 16 => pk (7 * d) [z1, z1, (iN 11), (oN 4), z1, z2, z1]
  | 17 => pk (7 * d) [z1, z1, (iN 11), (oN 4), z1, z2, z0]
  | 18 => pk (7 * d) [z1, z1, (iN 21), (oN 4), z1, z2, z0]
  | 19 => pk (7 * d) [z1, z1, (iN 21), (oN 4), z1, z2, z1]
  | 20 => pk (s) [(iN 9), (iN 11)]
  | 21 => pk (s) [bT, bT]
  | _ => 0
theorem vpE (s d o : Nat) : ∀ i m a, vvE s d o i m = some a → vplain a = true
  | 0, _, _, h => pv_plainB rfl h
  | 1, _, _, h => pv_plainB rfl h
  | 2, _, _, h => pv_plainB rfl h
  | 3, _, _, h => pv_plainB rfl h
  | 4, _, _, h => pv_plainB rfl h
  | 5, _, _, h => pv_plainB rfl h
  | 6, _, _, h => pv_plainB rfl h
  | 7, _, _, h => pv_plainB rfl h
  | 8, _, _, h => pv_plainB rfl h
  | 9, _, _, h => pv_plainB rfl h
  | 10, _, _, h => pv_plainB rfl h
  | 11, _, _, h => pv_plainB rfl h
  | 12, _, _, h => pv_plainB rfl h
  | 13, _, _, h => pv_plainB rfl h
  | 14, _, _, h => pv_plainB rfl h
  | 15, _, _, h => pv_plainB rfl h
  | 16, _, _, h => pv_plainB rfl h
  | 17, _, _, h => pv_plainB rfl h
  | 18, _, _, h => pv_plainB rfl h
  | 19, _, _, h => pv_plainB rfl h
  | 20, _, _, h => pv_plainB rfl h
  | 21, _, _, h => pv_plainB rfl h
  | _ + 22, _, _, h => (by cases h)
abbrev PE (v : Int) (r : Int) (wd : Int) (c0 : Int) (s : Nat) (d : Nat) (o : Nat) (rv : Nat → Value) : Tab := ((bare (ivE v r wd c0 s d o) (vvE s d o) (vkE s d o) (vpE s d o)).rtab rv)
noncomputable abbrev bsE : BS := [(7716, 7716, kb0), (7717, 7717, kb1), (7718, 7718, kb2), (7914, 7914, kb3), (7967, 7967, kb4), (10132, 10132, kb5), (10144, 10144, kb6), (10463, 10463, kb7), (10672, 10672, kb8), (10678, 10678, kb9), (10970, 10970, kb10), (10971, 10971, kb11), (10972, 10972, (.map [] 0)), (10973, 10973, kb12), (10977, 10977, kb13), (11691, 11691, kb14), (13691, 13691, (.cells 1 false [] (T.ofList 0 .leaf [bT]))), (13693, 13693, kb15), (14317, 14317, kb16), (14318, 14318, kb17), (14319, 14319, kb18), (14320, 14320, kb19), (14321, 14321, kb20), (14616, 14616, kb21), (14618, 14618, kb22), (15654, 15654, kb23), (15877, 15877, kb24), (16327, 16327, kb25), (16333, 16333, kb26), (16430, 16430, kb27), (16432, 16432, kb28), (17419, 17419, kb29), (17785, 17785, kb30), (18694, 18694, kb32), (18699, 18699, kb33), (18799, 18799, kb34), (20119, 20119, kb35), (20208, 20208, kb33), (20314, 20314, kb36), (20315, 20315, kb37), (20317, 20317, kb38), (30000, 30000, kb31), (30001, 30001, (.vec 0)), (30002, 30002, (.vec 1)), (30003, 30003, (.vec 2)), (30004, 30004, (.vec 3)), (30005, 30005, kb39)]
def SE (v : Int) (r : Int) (wd : Int) (c0 : Int) (s : Nat) (d : Nat) (o : Nat) (rv : Nat → Value) (B : Kp) (w0 : World) (μ : M) (a : Act) (w : World) : Prop := St (PE v r wd c0 s d o rv) B w0 μ Tryz.f51.ntmps (frOf fsR) (hOf 30040 bsE) a w
abbrev ivEm (v : Int) (r : Int) (wd : Int) (c0 : Int) (s : Nat) (d : Nat) (o : Nat) : Nat → IntKind × Int
  | 0 => (.i64, v)
  | 1 => (.i64, r)
  | 2 => (.i64, wd)
  | 3 => (.i64, c0)
  | 4 => (.i64, ((s : Nat) : Int))
  | 5 => (.i64, ((d : Nat) : Int))
  | 6 => (.i64, ((s + 1 : Nat) : Int))
  | 7 => (.i64, ((d + 1 : Nat) : Int))
  | 8 => (.i64, r + 1)
  | 9 => (.i64, c0 + 1)
  | 10 => (.i64, ((s + 2 : Nat) : Int))
  | 11 => (.i64, r + 2)
  | 12 => (.i64, c0 + 2)
  | 13 => (.i64, ((s + 3 : Nat) : Int))
  | 14 => (.i64, r + 3)
  | 15 => (.i64, c0 + 3)
  | 16 => (.i64, 2048 - wd)
  | 17 => (.i64, wd + 7)
  | 18 => (.i64, ((d + 2 : Nat) : Int))
  | 19 => (.i64, r + 4)
  | 20 => (.i64, c0 + 4)
  | _ => (.i64, 0)
abbrev vvEm (s d o : Nat) : Nat → Nat → Option AV
  | 0 => pv (s) 0 [(iN 9)]
  | 1 => pv (s) 1 [bT]
  | 2 => pv (7 * d) 2 [z1, z1, (iN 11), (oN 4), z1, z2, z0]
  | 3 => pv (d) 3 [(pN 30005)]
  | 4 => pv (7 * d) 2 [z1, z1, (iN 14), (oN 4), z1, z2, z0]
  | 5 => pv (7 * d) 2 [z1, z1, (iN 14), (oN 4), z1, z2, z1]
  | 6 => pv (s) 0 [(iN 9), z1]
  | 7 => pv (s) 1 [bT, bT]
  | 8 => pv (7 * d) 2 [z1, z1, (iN 17), (oN 4), z1, z2, z1]
  | 9 => pv (7 * d) 2 [z1, z1, (iN 17), (oN 4), z1, z2, z2]
  | 10 => pv (s) 0 [(iN 9), z1, (iN 9)]
  | 11 => pv (s) 1 [bT, bT, bT]
  | 12 => pv (7 * d) 2 [z1, z1, (iN 18), (oN 4), z1, z2, z2]
  | 13 => pv (7 * d) 2 [z1, z1, (iN 18), (oN 4), z1, z2, z0]
  | 14 => pv (7 * d) 2 [z1, z1, (iN 18), (oN 4), z1, z2, z0, z1, z1, z0, (oN 6), z1, z2, z0]
  | 15 => pv (s) 0 [(iN 9), z0]
  | 16 => pv (s) 1 [bT, bF]
  | 17 => pv (d) 3 [(pN 30005), (pN 30512)]
  | 18 => pv (s) 0 [(iN 9), (iN 9)]
  | 19 => pv (7 * d) 2 [z1, z1, (iN 18), (oN 4), z1, z2, z0, z1, z1, z0, (oN 6), z1, z2, z1]
  | 20 => pv (s) 0 [(iN 9), (iN 9), (oN 0)]
  | 21 => pv (s) 1 [bT, bT, bF]
  | _ => fun _ => none
abbrev vkEm (s d o : Nat) : Nat → Nat
  | 0 => pk (s) [(iN 9)]
  | 1 => pk (s) [bT]
  | 2 => pk (7 * d) [z1, z1, (iN 11), (oN 4), z1, z2, z0]
  | 3 => pk (d) [(pN 30005)]
  | 4 => pk (7 * d) [z1, z1, (iN 14), (oN 4), z1, z2, z0]
  | 5 => pk (7 * d) [z1, z1, (iN 14), (oN 4), z1, z2, z1]
  | 6 => pk (s) [(iN 9), z1]
  | 7 => pk (s) [bT, bT]
  | 8 => pk (7 * d) [z1, z1, (iN 17), (oN 4), z1, z2, z1]
  | 9 => pk (7 * d) [z1, z1, (iN 17), (oN 4), z1, z2, z2]
  | 10 => pk (s) [(iN 9), z1, (iN 9)]
  | 11 => pk (s) [bT, bT, bT]
  | 12 => pk (7 * d) [z1, z1, (iN 18), (oN 4), z1, z2, z2]
  | 13 => pk (7 * d) [z1, z1, (iN 18), (oN 4), z1, z2, z0]
  | 14 => pk (7 * d) [z1, z1, (iN 18), (oN 4), z1, z2, z0, z1, z1, z0, (oN 6), z1, z2, z0]
  | 15 => pk (s) [(iN 9), z0]
  | 16 => pk (s) [bT, bF]
  | 17 => pk (d) [(pN 30005), (pN 30512)]
  | 18 => pk (s) [(iN 9), (iN 9)]
  | 19 => pk (7 * d) [z1, z1, (iN 18), (oN 4), z1, z2, z0, z1, z1, z0, (oN 6), z1, z2, z1]
  | 20 => pk (s) [(iN 9), (iN 9), (oN 0)]
  | 21 => pk (s) [bT, bT, bF]
  | _ => 0
theorem vpEm (s d o : Nat) : ∀ i m a, vvEm s d o i m = some a → vplain a = true
  | 0, _, _, h => pv_plainB rfl h
  | 1, _, _, h => pv_plainB rfl h
  | 2, _, _, h => pv_plainB rfl h
  | 3, _, _, h => pv_plainB rfl h
  | 4, _, _, h => pv_plainB rfl h
  | 5, _, _, h => pv_plainB rfl h
  | 6, _, _, h => pv_plainB rfl h
  | 7, _, _, h => pv_plainB rfl h
  | 8, _, _, h => pv_plainB rfl h
  | 9, _, _, h => pv_plainB rfl h
  | 10, _, _, h => pv_plainB rfl h
  | 11, _, _, h => pv_plainB rfl h
  | 12, _, _, h => pv_plainB rfl h
  | 13, _, _, h => pv_plainB rfl h
  | 14, _, _, h => pv_plainB rfl h
  | 15, _, _, h => pv_plainB rfl h
  | 16, _, _, h => pv_plainB rfl h
  | 17, _, _, h => pv_plainB rfl h
  | 18, _, _, h => pv_plainB rfl h
  | 19, _, _, h => pv_plainB rfl h
  | 20, _, _, h => pv_plainB rfl h
  | 21, _, _, h => pv_plainB rfl h
  | _ + 22, _, _, h => (by cases h)
abbrev PEm (v : Int) (r : Int) (wd : Int) (c0 : Int) (s : Nat) (d : Nat) (o : Nat) (rv : Nat → Value) : Tab := ((bare (ivEm v r wd c0 s d o) (vvEm s d o) (vkEm s d o) (vpEm s d o)).rtab rv)
noncomputable abbrev bsEm : BS := [(7716, 7716, kb0), (7717, 7717, kb1), (7718, 7718, kb2), (7914, 7914, kb3), (7967, 7967, kb4), (10132, 10132, kb5), (10144, 10144, kb6), (10463, 10463, kb7), (10672, 10672, kb8), (10678, 10678, kb9), (10970, 10970, kb10), (10971, 10971, kb11), (10972, 10972, (.map [] 0)), (10973, 10973, kb12), (10977, 10977, kb13), (11691, 11691, kb14), (13691, 13691, (.cells 1 false [] (T.ofList 0 .leaf [bT]))), (13693, 13693, kb15), (14317, 14317, kb16), (14318, 14318, kb17), (14319, 14319, kb18), (14320, 14320, kb19), (14321, 14321, kb20), (14616, 14616, kb21), (14618, 14618, kb22), (15654, 15654, kb23), (15877, 15877, kb24), (16327, 16327, kb25), (16333, 16333, kb26), (16430, 16430, kb27), (16432, 16432, kb28), (17419, 17419, kb29), (17785, 17785, kb30), (18694, 18694, kb32), (18699, 18699, kb33), (18799, 18799, kb34), (20119, 20119, kb35), (20208, 20208, kb33), (20314, 20314, kb36), (20315, 20315, kb37), (20317, 20317, kb38), (30000, 30000, kb31), (30001, 30001, (.vec 0)), (30002, 30002, (.vec 1)), (30003, 30003, (.vec 2)), (30004, 30004, (.vec 3)), (30005, 30005, (.cells 6 false [] (T.ofList 0 .leaf [z2, z0, (pN 14616), z1, (iN 14), .nilp])))]
def SEm (v : Int) (r : Int) (wd : Int) (c0 : Int) (s : Nat) (d : Nat) (o : Nat) (rv : Nat → Value) (B : Kp) (w0 : World) (μ : M) (a : Act) (w : World) : Prop := St (PEm v r wd c0 s d o rv) B w0 μ Tryz.f51.ntmps (frOf fsR) (hOf 30040 bsEm) a w
abbrev ivE2 (v : Int) (r : Int) (wd : Int) (c0 : Int) (s : Nat) (d : Nat) (o : Nat) : Nat → IntKind × Int
  | 0 => (.i64, ((s + 3 : Nat) : Int))
  | 1 => (.i64, ((d + 2 : Nat) : Int))
  | 2 => (.i64, wd + 7)
  | 3 => (.i64, c0 + 4)
  | 4 => (.i64, r + 4)
  | 5 => (.i64, v)
  | 6 => (.i64, ((s : Nat) : Int))
  | 7 => (.i64, ((s + 1 : Nat) : Int))
  | _ => (.i64, 0)
abbrev vvE2 (s d o : Nat) : Nat → Nat → Option AV
  | 0 => pv (s) 0 [(iN 9), (iN 9), (oN 5)]
  | 1 => pv (s) 1 [bT, bT, bF]
  | 2 => pv (7 * d) 2 [z1, z1, (iN 18), (oN 6), z1, z2, z0, z1, z1, z0, (oN 7), z1, z2, z1]
  | 3 => pv (d) 3 [(pN 30006), (pN 30005)]
  | _ => fun _ => none
abbrev vkE2 (s d o : Nat) : Nat → Nat
  | 0 => pk (s) [(iN 9), (iN 9), (oN 5)]
  | 1 => pk (s) [bT, bT, bF]
  | 2 => pk (7 * d) [z1, z1, (iN 18), (oN 6), z1, z2, z0, z1, z1, z0, (oN 7), z1, z2, z1]
  | 3 => pk (d) [(pN 30006), (pN 30005)]
  | _ => 0
theorem vpE2 (s d o : Nat) : ∀ i m a, vvE2 s d o i m = some a → vplain a = true
  | 0, _, _, h => pv_plainB rfl h
  | 1, _, _, h => pv_plainB rfl h
  | 2, _, _, h => pv_plainB rfl h
  | 3, _, _, h => pv_plainB rfl h
  | _ + 4, _, _, h => (by cases h)
abbrev PE2 (v : Int) (r : Int) (wd : Int) (c0 : Int) (s : Nat) (d : Nat) (o : Nat) (rv : Nat → Value) : Tab := ((bare (ivE2 v r wd c0 s d o) (vvE2 s d o) (vkE2 s d o) (vpE2 s d o)).rtab rv)
noncomputable abbrev bsE2 : BS := [(7716, 7716, kb0), (7717, 7717, kb1), (7718, 7718, kb2), (7914, 7914, kb3), (7967, 7967, kb4), (10132, 10132, kb5), (10144, 10144, kb6), (10463, 10463, kb7), (10672, 10672, kb8), (10678, 10678, kb9), (10970, 10970, kb10), (10971, 10971, kb11), (10972, 10972, (.map [] 0)), (10973, 10973, kb12), (10977, 10977, kb13), (11691, 11691, kb14), (13691, 13691, (.cells 1 false [] (T.ofList 0 .leaf [bT]))), (13693, 13693, kb15), (14317, 14317, kb40), (14318, 14318, kb17), (14319, 14319, kb18), (14320, 14320, kb19), (14321, 14321, kb41), (14616, 14616, kb21), (14618, 14618, kb22), (15654, 15654, kb23), (15877, 15877, kb24), (16327, 16327, kb25), (16333, 16333, kb26), (16430, 16430, kb27), (16432, 16432, kb28), (17419, 17419, kb29), (17785, 17785, kb30), (18694, 18694, kb32), (18699, 18699, kb33), (18799, 18799, kb34), (20119, 20119, (.cells 1 false [z0] (T.ofList 0 .leaf [(oN 5)]))), (20208, 20208, kb33), (20314, 20314, kb36), (20315, 20315, kb37), (20317, 20317, kb38), (30000, 30000, kb31), (30001, 30001, (.vec 0)), (30002, 30002, (.vec 1)), (30003, 30003, (.vec 2)), (30004, 30004, (.vec 3)), (30005, 30005, kb39), (30006, 30006, kb42)]
def SE2 (v : Int) (r : Int) (wd : Int) (c0 : Int) (s : Nat) (d : Nat) (o : Nat) (rv : Nat → Value) (B : Kp) (w0 : World) (μ : M) (a : Act) (w : World) : Prop := St (PE2 v r wd c0 s d o rv) B w0 μ Tryz.f51.ntmps (frOf fsR) (hOf 30040 bsE2) a w
abbrev ivC0 (r : Int) (wd : Int) (c0 : Int) (s : Nat) (d : Nat) (o : Nat) : Nat → IntKind × Int
  | 0 => (.i64, r)
  | 1 => (.i64, wd)
  | 2 => (.i64, c0)
  | 3 => (.i64, ((s : Nat) : Int))
  | 4 => (.i64, ((s + 1 : Nat) : Int))
  | 5 => (.i64, ((d : Nat) : Int))
  | 6 => (.i64, ((s + 3 : Nat) : Int))
  | 7 => (.i64, ((d + 2 : Nat) : Int))
  | 8 => (.i64, ((d + 1 : Nat) : Int))
  | 9 => (.i64, r + 1)
  | 10 => (.i64, c0 + 1)
  | 11 => (.i64, ((s + 2 : Nat) : Int))
  | 12 => (.i64, wd - 7)
  | 13 => (.i64, r + 2)
  | 14 => (.i64, c0 + 2)
  | _ => (.i64, 0)
abbrev vvC0 (s d o : Nat) : Nat → Nat → Option AV
  | 0 => pv (s) 0 [(iN 9), (iN 9), (iN 11)]
  | 1 => pv (s) 1 [bT, bT, bT]
  | 2 => pv (7 * d) 2 [z1, z1, (iN 18), (oN 3), z1, z2, z0, z1, z1, (iN 21), (oN 4), z1, z2, z1]
  | 3 => pv (d) 3 [(pN 30040), (pN 30005)]
  | 4 => pv (7 * d) 2 [z1, z1, (iN 18), (oN 3), z1, z2, z0, z1, z1, (iN 24), (oN 4), z1, z2, z1]
  | 5 => pv (7 * d) 2 [z1, z1, (iN 18), (oN 3), z1, z2, z0, z1, z1, (iN 24), (oN 4), z1, z2, z0]
  | 6 => pv (7 * d) 2 [z1, z1, (iN 21), (oN 3), z1, z2, z0, z1, z1, (iN 24), (oN 4), z1, z2, z0]
  | 7 => pv (7 * d) 2 [z1, z1, (iN 21), (oN 3), z1, z2, z1, z1, z1, (iN 24), (oN 4), z1, z2, z0]
  | 8 => pv (s) 0 [(iN 9), (iN 11)]
  | 9 => pv (s) 1 [bT, bT]
  | _ => fun _ => none
abbrev vkC0 (s d o : Nat) : Nat → Nat
  | 0 => pk (s) [(iN 9), (iN 9), (iN 11)]
  | 1 => pk (s) [bT, bT, bT]
  | 2 => pk (7 * d) [z1, z1, (iN 18), (oN 3), z1, z2, z0, z1, z1, (iN 21), (oN 4), z1, z2, z1]
  | 3 => pk (d) [(pN 30040), (pN 30005)]
  | 4 => pk (7 * d) [z1, z1, (iN 18), (oN 3), z1, z2, z0, z1, z1, (iN 24), (oN 4), z1, z2, z1]
  | 5 => pk (7 * d) [z1, z1, (iN 18), (oN 3), z1, z2, z0, z1, z1, (iN 24), (oN 4), z1, z2, z0]
  | 6 => pk (7 * d) [z1, z1, (iN 21), (oN 3), z1, z2, z0, z1, z1, (iN 24), (oN 4), z1, z2, z0]
  | 7 => pk (7 * d) [z1, z1, (iN 21), (oN 3), z1, z2, z1, z1, z1, (iN 24), (oN 4), z1, z2, z0]
  | 8 => pk (s) [(iN 9), (iN 11)]
  | 9 => pk (s) [bT, bT]
  | _ => 0
theorem vpC0 (s d o : Nat) : ∀ i m a, vvC0 s d o i m = some a → vplain a = true
  | 0, _, _, h => pv_plainB rfl h
  | 1, _, _, h => pv_plainB rfl h
  | 2, _, _, h => pv_plainB rfl h
  | 3, _, _, h => pv_plainB rfl h
  | 4, _, _, h => pv_plainB rfl h
  | 5, _, _, h => pv_plainB rfl h
  | 6, _, _, h => pv_plainB rfl h
  | 7, _, _, h => pv_plainB rfl h
  | 8, _, _, h => pv_plainB rfl h
  | 9, _, _, h => pv_plainB rfl h
  | _ + 10, _, _, h => (by cases h)
abbrev PC0 (r : Int) (wd : Int) (c0 : Int) (s : Nat) (d : Nat) (o : Nat) (rv : Nat → Value) : Tab := ((bare (ivC0 r wd c0 s d o) (vvC0 s d o) (vkC0 s d o) (vpC0 s d o)).rtab rv)
noncomputable abbrev bsC0 : BS := [(7716, 7716, kb0), (7717, 7717, kb1), (7718, 7718, kb2), (7914, 7914, kb3), (10463, 10463, kb7), (10971, 10971, kb43), (10972, 10972, (.map [(tx67, z0, 0)] 1)), (10973, 10973, kb44), (10977, 10977, kb13), (11691, 11691, kb14), (13691, 13691, (.cells 1 false [] (T.ofList 0 .leaf [bT]))), (13693, 13693, kb15), (14317, 14317, (.cells 4 false [] (T.ofList 0 .leaf [(.ov 30001 6 1), (.ov 30002 6 1), (.ov 30003 7 7), (oN 1)]))), (14318, 14318, kb17), (14320, 14320, kb45), (14321, 14321, (.cells 32 false [] (T.ofList 0 .leaf [(pN 7718), (pN 10976), (pN 10971), (pN 10973), (pN 10977), (pN 14317), (.ov 30004 7 1), (.map 14318), (.map 14319), .nils, z1, (iN 3), (iN 6), z0, .nilp, bT, (iN 2000), (oN 0), z0, z1, z0, z0, (uN 0), z0, tx4, tx4, bF, z0, .nils, z0, z0, (.map 14320)]))), (14616, 14616, kb21), (14618, 14618, kb22), (15877, 15877, kb24), (16327, 16327, kb25), (16333, 16333, kb26), (16430, 16430, kb27), (16432, 16432, kb28), (17419, 17419, kb29), (17785, 17785, kb30), (18694, 18694, kb32), (18699, 18699, kb33), (18799, 18799, kb34), (20208, 20208, kb33), (30000, 30000, kb31), (30001, 30001, (.vec 0)), (30002, 30002, (.vec 1)), (30003, 30003, (.vec 2)), (30004, 30004, (.vec 3)), (30005, 30005, kb46), (30021, 30021, kb47), (30022, 30022, kb48), (30023, 30023, kb49), (30024, 30024, (.cells 1 true [] (T.ofList 0 .leaf [(iN 11)]))), (30040, 30040, kb42)]
def SC0 (r : Int) (wd : Int) (c0 : Int) (s : Nat) (d : Nat) (o : Nat) (rv : Nat → Value) (B : Kp) (w0 : World) (μ : M) (a : Act) (w : World) : Prop := St (PC0 r wd c0 s d o rv) B w0 μ Tryz.f51.ntmps (frOf fsR) (hOf 30041 bsC0) a w
abbrev ivC (r : Int) (wd : Int) (c0 : Int) (s : Nat) (d : Nat) (o : Nat) : Nat → IntKind × Int
  | 0 => (.i64, r)
  | 1 => (.i64, wd)
  | 2 => (.i64, c0)
  | 3 => (.i64, ((s : Nat) : Int))
  | 4 => (.i64, ((s + 1 : Nat) : Int))
  | 5 => (.i64, ((o : Nat) : Int))
  | 6 => (.i64, ((d : Nat) : Int))
  | 7 => (.i64, ((s + 3 : Nat) : Int))
  | 8 => (.i64, ((d + 2 : Nat) : Int))
  | 9 => (.i64, ((d + 1 : Nat) : Int))
  | 10 => (.i64, r + 1)
  | 11 => (.i64, c0 + 1)
  | 12 => (.i64, ((s + 2 : Nat) : Int))
  | 13 => (.i64, wd - 7)
  | 14 => (.i64, ((o + 3 : Nat) : Int))
  | 15 => (.i64, r + 2)
  | 16 => (.i64, c0 + 2)
  | _ => (.i64, 0)
abbrev vvC (s d o : Nat) : Nat → Nat → Option AV
  | 0 => pvg bs.outG (o) []
  | 1 => pv (s) 0 [(iN 9), (iN 9), (iN 11)]
  | 2 => pv (s) 1 [bT, bT, bT]
  | 3 => pv (7 * d) 2 [z1, z1, (iN 18), (oN 3), z1, z2, z0, z1, z1, (iN 21), (oN 4), z1, z2, z1]
  | 4 => pv (d) 3 [(pN 30040), (pN 30005)]
  | 5 => pv (7 * d) 2 [z1, z1, (iN 18), (oN 3), z1, z2, z0, z1, z1, (iN 24), (oN 4), z1, z2, z1]
  | 6 => pv (7 * d) 2 [z1, z1, (iN 18), (oN 3), z1, z2, z0, z1, z1, (iN 24), (oN 4), z1, z2, z0]
  | 7 => pvg bs.outG (o) [(uN 109), (uN 101), (uN 10)]
  | 8 => pv (7 * d) 2 [z1, z1, (iN 21), (oN 3), z1, z2, z0, z1, z1, (iN 24), (oN 4), z1, z2, z0]
  | 9 => pv (7 * d) 2 [z1, z1, (iN 21), (oN 3), z1, z2, z1, z1, z1, (iN 24), (oN 4), z1, z2, z0]
  | 10 => pv (s) 0 [(iN 9), (iN 11)]
  | 11 => pv (s) 1 [bT, bT]
  | _ => fun _ => none
abbrev vkC (s d o : Nat) : Nat → Nat
  | 0 => pk (o) []
  | 1 => pk (s) [(iN 9), (iN 9), (iN 11)]
  | 2 => pk (s) [bT, bT, bT]
  | 3 => pk (7 * d) [z1, z1, (iN 18), (oN 3), z1, z2, z0, z1, z1, (iN 21), (oN 4), z1, z2, z1]
  | 4 => pk (d) [(pN 30040), (pN 30005)]
  | 5 => pk (7 * d) [z1, z1, (iN 18), (oN 3), z1, z2, z0, z1, z1, (iN 24), (oN 4), z1, z2, z1]
  | 6 => pk (7 * d) [z1, z1, (iN 18), (oN 3), z1, z2, z0, z1, z1, (iN 24), (oN 4), z1, z2, z0]
  | 7 => pk (o) [(uN 109), (uN 101), (uN 10)]
  | 8 => pk (7 * d) [z1, z1, (iN 21), (oN 3), z1, z2, z0, z1, z1, (iN 24), (oN 4), z1, z2, z0]
  | 9 => pk (7 * d) [z1, z1, (iN 21), (oN 3), z1, z2, z1, z1, z1, (iN 24), (oN 4), z1, z2, z0]
  | 10 => pk (s) [(iN 9), (iN 11)]
  | 11 => pk (s) [bT, bT]
  | _ => 0
theorem vpC (s d o : Nat) : ∀ i m a, vvC s d o i m = some a → vplain a = true
  | 0, _, _, h => pvg_plainB bs.outG_plain rfl h
  | 1, _, _, h => pv_plainB rfl h
  | 2, _, _, h => pv_plainB rfl h
  | 3, _, _, h => pv_plainB rfl h
  | 4, _, _, h => pv_plainB rfl h
  | 5, _, _, h => pv_plainB rfl h
  | 6, _, _, h => pv_plainB rfl h
  | 7, _, _, h => pvg_plainB bs.outG_plain rfl h
  | 8, _, _, h => pv_plainB rfl h
  | 9, _, _, h => pv_plainB rfl h
  | 10, _, _, h => pv_plainB rfl h
  | 11, _, _, h => pv_plainB rfl h
  | _ + 12, _, _, h => (by cases h)
abbrev PC (r : Int) (wd : Int) (c0 : Int) (s : Nat) (d : Nat) (o : Nat) (rv : Nat → Value) : Tab := ((bare (ivC r wd c0 s d o) (vvC s d o) (vkC s d o) (vpC s d o)).rtab rv)
noncomputable abbrev bsC : BS := [(7716, 7716, kb0), (7717, 7717, kb1), (7718, 7718, kb2), (7914, 7914, kb3), (10463, 10463, kb7), (10971, 10971, kb43), (10972, 10972, (.map [(tx67, z0, 0)] 1)), (10973, 10973, kb44), (10977, 10977, (.cells 7 false [] (T.ofList 0 .leaf [(pN 10971), (pN 10973), (pN 7718), (.so 11691 0 39 3), (.ov 30020 5 1), bF, bF]))), (11691, 11691, kb14), (13691, 13691, (.cells 1 false [] (T.ofList 0 .leaf [bT]))), (13693, 13693, kb15), (14317, 14317, (.cells 4 false [] (T.ofList 0 .leaf [(.ov 30001 7 1), (.ov 30002 7 1), (.ov 30003 8 7), (oN 1)]))), (14318, 14318, kb17), (14320, 14320, kb45), (14321, 14321, (.cells 32 false [] (T.ofList 0 .leaf [(pN 7718), (pN 10976), (pN 10971), (pN 10973), (pN 10977), (pN 14317), (.ov 30004 8 1), (.map 14318), (.map 14319), .nils, z1, (iN 3), (iN 6), z0, .nilp, bT, (iN 2000), (oN 0), z0, z1, z0, z0, (uN 0), z0, tx4, tx4, bF, z0, .nils, z0, z0, (.map 14320)]))), (14616, 14616, kb21), (14618, 14618, kb22), (15877, 15877, kb24), (16327, 16327, kb25), (16333, 16333, kb26), (16430, 16430, kb27), (16432, 16432, kb28), (17419, 17419, kb29), (17785, 17785, kb30), (18694, 18694, kb32), (18699, 18699, kb33), (18799, 18799, kb34), (20208, 20208, kb33), (30000, 30000, kb31), (30001, 30001, (.vec 1)), (30002, 30002, (.vec 2)), (30003, 30003, (.vec 3)), (30004, 30004, (.vec 4)), (30005, 30005, kb46), (30020, 30020, (.vec 0)), (30021, 30021, kb47), (30022, 30022, kb48), (30023, 30023, kb49), (30024, 30024, (.cells 1 true [] (T.ofList 0 .leaf [(iN 11)]))), (30040, 30040, kb42)]
def SC (r : Int) (wd : Int) (c0 : Int) (s : Nat) (d : Nat) (o : Nat) (rv : Nat → Value) (B : Kp) (w0 : World) (μ : M) (a : Act) (w : World) : Prop := St (PC r wd c0 s d o rv) B w0 μ Tryz.f51.ntmps (frOf fsR) (hOf 30041 bsC) a w
abbrev ivR0 (r : Int) (wd : Int) (c0 : Int) (s : Nat) (d : Nat) (o : Nat) : Nat → IntKind × Int
  | 0 => (.i64, ((s + 2 : Nat) : Int))
  | 1 => (.i64, ((d + 1 : Nat) : Int))
  | 2 => (.i64, wd)
  | 3 => (.i64, c0)
  | 4 => (.i64, r)
  | 5 => (.i64, ((s : Nat) : Int))
  | _ => (.i64, 0)
abbrev vvR0 (s d o : Nat) : Nat → Nat → Option AV
  | 0 => pv (s) 0 [(iN 9), (iN 11)]
  | 1 => pv (s) 1 [bT, bT]
  | 2 => pv (7 * d) 2 [z1, z1, (iN 21), (oN 5), z1, z2, z1]
  | 3 => pv (d) 3 [(pN 30005)]
  | _ => fun _ => none
abbrev vkR0 (s d o : Nat) : Nat → Nat
  | 0 => pk (s) [(iN 9), (iN 11)]
  | 1 => pk (s) [bT, bT]
  | 2 => pk (7 * d) [z1, z1, (iN 21), (oN 5), z1, z2, z1]
  | 3 => pk (d) [(pN 30005)]
  | _ => 0
theorem vpR0 (s d o : Nat) : ∀ i m a, vvR0 s d o i m = some a → vplain a = true
  | 0, _, _, h => pv_plainB rfl h
  | 1, _, _, h => pv_plainB rfl h
  | 2, _, _, h => pv_plainB rfl h
  | 3, _, _, h => pv_plainB rfl h
  | _ + 4, _, _, h => (by cases h)
abbrev PR0 (r : Int) (wd : Int) (c0 : Int) (s : Nat) (d : Nat) (o : Nat) (rv : Nat → Value) : Tab := ((bare (ivR0 r wd c0 s d o) (vvR0 s d o) (vkR0 s d o) (vpR0 s d o)).rtab rv)
noncomputable abbrev bsR0 : BS := [(7716, 7716, kb0), (7717, 7717, kb1), (7718, 7718, kb2), (7914, 7914, kb3), (10463, 10463, kb7), (10971, 10971, kb43), (10972, 10972, (.map [(tx67, z0, 0)] 1)), (10973, 10973, kb44), (10977, 10977, kb13), (11691, 11691, kb14), (13691, 13691, (.cells 1 false [] (T.ofList 0 .leaf [bT]))), (13693, 13693, kb15), (14317, 14317, kb40), (14318, 14318, kb17), (14320, 14320, kb19), (14321, 14321, kb41), (14616, 14616, kb21), (14618, 14618, kb22), (15877, 15877, kb24), (16327, 16327, kb25), (16333, 16333, kb26), (16430, 16430, kb27), (16432, 16432, kb28), (17419, 17419, kb29), (17785, 17785, kb30), (18694, 18694, kb32), (18699, 18699, kb33), (18799, 18799, kb34), (20208, 20208, kb33), (30000, 30000, kb31), (30001, 30001, (.vec 0)), (30002, 30002, (.vec 1)), (30003, 30003, (.vec 2)), (30004, 30004, (.vec 3)), (30005, 30005, kb46), (30021, 30021, kb47), (30022, 30022, kb48), (30023, 30023, kb49), (30024, 30024, (.cells 1 true [] (T.ofList 0 .leaf [(iN 11)])))]
def SR0 (r : Int) (wd : Int) (c0 : Int) (s : Nat) (d : Nat) (o : Nat) (rv : Nat → Value) (B : Kp) (w0 : World) (μ : M) (a : Act) (w : World) : Prop := St (PR0 r wd c0 s d o rv) B w0 μ Tryz.f51.ntmps (frOf fsR) (hOf 30040 bsR0) a w
abbrev ivR (r : Int) (wd : Int) (c0 : Int) (s : Nat) (d : Nat) (o : Nat) : Nat → IntKind × Int
  | 0 => (.i64, ((o : Nat) : Int))
  | 1 => (.i64, ((s + 2 : Nat) : Int))
  | 2 => (.i64, ((d + 1 : Nat) : Int))
  | 3 => (.i64, wd)
  | 4 => (.i64, c0)
  | 5 => (.i64, r)
  | 6 => (.i64, ((s : Nat) : Int))
  | _ => (.i64, 0)
abbrev vvR (s d o : Nat) : Nat → Nat → Option AV
  | 0 => pv (s) 0 [(iN 9), (iN 11)]
  | 1 => pv (s) 1 [bT, bT]
  | 2 => pv (7 * d) 2 [z1, z1, (iN 21), (oN 6), z1, z2, z1]
  | 3 => pv (d) 3 [(pN 30005)]
  | 4 => pvg bs.outG (o) []
  | _ => fun _ => none
abbrev vkR (s d o : Nat) : Nat → Nat
  | 0 => pk (s) [(iN 9), (iN 11)]
  | 1 => pk (s) [bT, bT]
  | 2 => pk (7 * d) [z1, z1, (iN 21), (oN 6), z1, z2, z1]
  | 3 => pk (d) [(pN 30005)]
  | 4 => pk (o) []
  | _ => 0
theorem vpR (s d o : Nat) : ∀ i m a, vvR s d o i m = some a → vplain a = true
  | 0, _, _, h => pv_plainB rfl h
  | 1, _, _, h => pv_plainB rfl h
  | 2, _, _, h => pv_plainB rfl h
  | 3, _, _, h => pv_plainB rfl h
  | 4, _, _, h => pvg_plainB bs.outG_plain rfl h
  | _ + 5, _, _, h => (by cases h)
abbrev PR (r : Int) (wd : Int) (c0 : Int) (s : Nat) (d : Nat) (o : Nat) (rv : Nat → Value) : Tab := ((bare (ivR r wd c0 s d o) (vvR s d o) (vkR s d o) (vpR s d o)).rtab rv)
noncomputable abbrev bsR : BS := [(7716, 7716, kb0), (7717, 7717, kb1), (7718, 7718, kb2), (7914, 7914, kb3), (10463, 10463, kb7), (10971, 10971, kb43), (10972, 10972, (.map [(tx67, z0, 0)] 1)), (10973, 10973, kb44), (10977, 10977, (.cells 7 false [] (T.ofList 0 .leaf [(pN 10971), (pN 10973), (pN 7718), (.so 11691 0 39 3), (.ov 30020 0 1), bF, bF]))), (11691, 11691, kb14), (13691, 13691, (.cells 1 false [] (T.ofList 0 .leaf [bT]))), (13693, 13693, kb15), (14317, 14317, (.cells 4 false [] (T.ofList 0 .leaf [(.ov 30001 1 1), (.ov 30002 1 1), (.ov 30003 2 7), (oN 3)]))), (14318, 14318, kb17), (14320, 14320, (.map [(tx8, (iN 7), 0), (tx7, (iN 3), 1), (tx1, (oN 4), 2)] 3)), (14321, 14321, (.cells 32 false [] (T.ofList 0 .leaf [(pN 7718), (pN 10976), (pN 10971), (pN 10973), (pN 10977), (pN 14317), (.ov 30004 2 1), (.map 14318), (.map 14319), .nils, z1, (iN 3), (iN 6), z0, .nilp, bT, (iN 2000), (oN 5), z0, z1, z0, z0, (uN 0), z0, tx4, tx4, bF, z0, .nils, z0, z0, (.map 14320)]))), (14616, 14616, kb21), (14618, 14618, kb22), (15877, 15877, kb24), (16327, 16327, kb25), (16333, 16333, kb26), (16430, 16430, kb27), (16432, 16432, kb28), (17419, 17419, kb29), (17785, 17785, kb30), (18694, 18694, kb32), (18699, 18699, kb33), (18799, 18799, kb34), (20208, 20208, kb33), (30000, 30000, kb31), (30001, 30001, (.vec 0)), (30002, 30002, (.vec 1)), (30003, 30003, (.vec 2)), (30004, 30004, (.vec 3)), (30005, 30005, kb46), (30020, 30020, (.vec 4)), (30021, 30021, kb47), (30022, 30022, kb48), (30023, 30023, kb49), (30024, 30024, (.cells 1 true [] (T.ofList 0 .leaf [(iN 11)])))]
def SR (r : Int) (wd : Int) (c0 : Int) (s : Nat) (d : Nat) (o : Nat) (rv : Nat → Value) (B : Kp) (w0 : World) (μ : M) (a : Act) (w : World) : Prop := St (PR r wd c0 s d o rv) B w0 μ Tryz.f51.ntmps (frOf fsR) (hOf 30040 bsR) a w
end Go.Proofs.YtbgkinjicnnkiaaGreatDoor.sp
