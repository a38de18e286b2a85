/-
  States of the machine within the law TopMutual.
-/
import Derived.Test.YtfkfmjlppllfoaaGreatDoorMNN
import Derived.Test.YtfkfmjlppllfoaaGreatDoorXN3
import Derived.Test.YtfkfmjlppllfoaaGreatDoorProg
import Derived.KernelRfl
set_option linter.unusedSectionVars false
set_option linter.unusedVariables false
set_option maxRecDepth 1000000
set_option maxHeartbeats 0
namespace Go.Proofs.YtfkfmjlppllfoaaGreatDoor.mu
open Go.X Go.RowKit
theorem hOf_congr {N : Nat} {a b : BS} (h : bsOf a = bsOf b) : hOf N a = hOf N b := by unfold hOf; rw [h]
theorem mixed : Tryz.prog.follows .mixedOrders = true := by kernel_rfl
noncomputable def fullR : Code := (Tryz.f47.body).getD .skip
noncomputable def la : Code := lpOf (restn 2 fullR)
noncomputable def tl : Code := tlOf (restn 2 fullR)
noncomputable abbrev fsR : List (Nat × AV) := [(0, .ptr 13773 0), (10, .ptr 20000 0)]
noncomputable abbrev kb0 : Blk := (.map [(tx3, (pN 7366), 0), (tx25, (pN 7514), 1), (tx26, (pN 7623), 2), (tx11, (pN 7734), 3), (tx27, (pN 7848), 4), (tx28, (pN 7961), 5), (tx21, (pN 8058), 6), (tx33, (pN 8152), 7), (tx24, (pN 8243), 8), (tx36, (pN 8333), 9), (tx15, (pN 8439), 10), (tx29, (pN 8542), 11), (tx13, (pN 8657), 12), (tx2, (pN 8755), 13), (tx9, (pN 8848), 14), (tx30, (pN 8953), 15), (tx8, (pN 9052), 16), (tx16, (pN 9164), 17), (tx22, (pN 9260), 18), (tx34, (pN 9361), 19), (tx31, (pN 9463), 20), (tx23, (pN 9573), 21), (tx0, (pN 9584), 22), (tx20, (pN 9695), 23), (tx5, (pN 9787), 24), (tx19, (pN 9894), 25), (tx7, (pN 9915), 26), (tx1, (pN 9972), 27), (tx10, (pN 10112), 28), (tx39, (pN 10124), 29), (tx12, (pN 10212), 30), (tx14, (pN 10312), 31), (tx37, (pN 10412), 32)] 33)
noncomputable abbrev kb1 : Blk := (.cells 3 false [] (T.ofList 0 .leaf [(.map 7168), (.map 7169), (.so 15202 0 1 1)]))
noncomputable abbrev kb2 : Blk := (.cells 8 false [] (T.ofList 0 .leaf [(iN 52), .nils, (iN 33), tx0, tx6, .nils, .nils, (.so 9596 0 3 9)]))
noncomputable abbrev kb3 : Blk := (.cells 3 false [] (T.ofList 0 .leaf [(pN 7170), (.map 10426), (.map 10427)]))
noncomputable abbrev kb4 : Blk := (.cells 7 false [] (T.ofList 0 .leaf [(pN 10423), (pN 10425), (pN 7170), (.so 11143 0 39 3), .nils, bF, bF]))
noncomputable abbrev kb5 : Blk := (.cells 4 false [] (T.ofList 0 .leaf [(.ov 20001 7 1), (.ov 20002 7 1), (.ov 20003 8 7), (oN 2)]))
noncomputable abbrev kb6 : Blk := (.map [(tx17, (pN 16578), 0), (tx0, (pN 16583), 1)] 2)
noncomputable abbrev kb7 : Blk := (.map [(tx32, (oN 3), 0), (tx38, (oN 4), 1)] 2)
noncomputable abbrev kb8 : Blk := (.cells 32 false [] (T.ofList 0 .leaf [(pN 7170), (pN 10428), (pN 10423), (pN 10425), (pN 10429), (pN 13769), (.ov 20004 8 1), (.map 13770), (.map 13771), .nils, z1, (iN 3), (iN 6), z0, .nilp, bT, (iN 5000), (oN 1), z0, z1, z0, z0, (uN 0), z0, tx6, tx6, bF, z0, .nils, z0, z0, (.map 13772)]))
noncomputable abbrev kb9 : Blk := (.cells 8 false [] (T.ofList 0 .leaf [(iN 52), (.sl 14064 0 14 14), (iN 33), tx17, tx0, .nils, .nils, (.so 15200 0 2 9)]))
noncomputable abbrev kb10 : Blk := (.cells 70 false [z0, tx6, z0, z0, z0] (ofPairs [(5, z1), (6, tx17), (7, z0), (8, z0), (9, z0), (10, (iN 7)), (11, tx6), (12, z0), (13, z1), (14, z0), (15, z1), (16, tx57), (17, z0), (18, z0), (19, z0), (20, z1), (21, tx44), (22, z0), (23, z0), (24, z0), (25, (iN 12)), (26, tx6), (27, z0), (28, (iN 3)), (29, (iN 4)), (30, (iN 10)), (31, tx6), (32, z0), (33, z2), (34, (iN 5)), (35, z1), (36, tx50), (37, z0), (38, z0), (39, z0), (40, z1), (41, tx56), (42, z0), (43, z0), (44, z0), (45, z1), (46, tx64), (47, z0), (48, z0), (49, z0), (50, (iN 12)), (51, tx6), (52, z0), (53, (iN 7)), (54, (iN 4)), (55, (iN 10)), (56, tx6), (57, z0), (58, z2), (59, (iN 10)), (60, z1), (61, tx0), (62, z0), (63, z0), (64, z0), (65, (iN 7)), (66, tx6), (67, z0), (68, (iN 12)), (69, z0)]))
noncomputable abbrev kb11 : Blk := (.cells 13 true [] (T.ofList 0 .leaf [(uN 26), (uN 154), (uN 0), (uN 5), (uN 4), (uN 172), (uN 26), (uN 4), (uN 100), (uN 184), (uN 0), (uN 6), (uN 172)]))
noncomputable abbrev kb12 : Blk := (.cells 4 true [] (T.ofList 0 .leaf [(iN 255), (iN 6), (.so 14823 0 1 3), .nils]))
noncomputable abbrev kb13 : Blk := (.cells 13 true [] (T.ofList 0 .leaf [(uN 26), (uN 154), (uN 0), (uN 5), (uN 3), (uN 172), (uN 26), (uN 4), (uN 100), (uN 184), (uN 0), (uN 11), (uN 172)]))
noncomputable abbrev kb14 : Blk := (.cells 4 true [] (T.ofList 0 .leaf [(iN 255), (iN 6), (.so 15191 0 1 3), .nils]))
noncomputable abbrev kb15 : Blk := (.cells 18 true [] (T.ofList 0 .leaf [(iN 9), tx50, tx44, bT, z2, z1, (.so 14502 0 13 1), .nils, (.so 14826 0 1 4), (iN 9), tx57, tx44, bT, z2, z1, (.so 14870 0 13 1), .nils, (.so 15194 0 1 4)]))
noncomputable abbrev kb16 : Blk := (.cells 11 false [] (T.ofList 0 .leaf [z0, z0, (uN 0), z0, tx6, tx6, bF, z0, .nils, z0, z0]))
noncomputable abbrev kb17 : Blk := (.cells 2 false [] (T.ofList 0 .leaf [z2, (.sl 16582 0 0 0)]))
noncomputable abbrev kb18 : Blk := (.cells 2 false [] (T.ofList 0 .leaf [z2, .nils]))
noncomputable abbrev kb19 : Blk := (.cells 6 false [] (T.ofList 0 .leaf [z0, z0, (pN 14062), z0, z0, .nilp]))
noncomputable abbrev kb20 : Blk := (.cells 6 false [] (T.ofList 0 .leaf [z0, z0, (pN 14062), z1, z0, .nilp]))
noncomputable abbrev kb21 : Blk := (.cells 4 false [] (T.ofList 0 .leaf [(.ov 20001 0 1), (.ov 20002 0 1), (.ov 20003 1 7), (oN 2)]))
noncomputable abbrev kb22 : Blk := (.cells 32 false [] (T.ofList 0 .leaf [(pN 7170), (pN 10428), (pN 10423), (pN 10425), (pN 10429), (pN 13769), (.ov 20004 1 1), (.map 13770), (.map 13771), .nils, z1, (iN 3), (iN 6), z0, .nilp, bT, (iN 5000), (oN 5), z0, z1, z0, z0, (uN 0), z0, tx6, tx6, bF, z0, .nils, z0, z0, (.map 13772)]))
noncomputable abbrev kb23 : Blk := (.cells 6 false [] (T.ofList 0 .leaf [z0, z2, (pN 14062), z0, (iN 9), .nilp]))
noncomputable abbrev kb24 : Blk := (.cells 6 false [] (T.ofList 0 .leaf [z0, z2, (pN 14062), z1, (iN 9), .nilp]))
noncomputable abbrev kb25 : Blk := (.cells 4 false [] (T.ofList 0 .leaf [(.ov 20001 10 1), (.ov 20002 10 1), (.ov 20003 11 7), (oN 4)]))
noncomputable abbrev kb26 : Blk := (.map [(tx32, (oN 5), 0), (tx38, (oN 6), 1)] 2)
noncomputable abbrev kb27 : Blk := (.cells 32 false [] (T.ofList 0 .leaf [(pN 7170), (pN 10428), (pN 10423), (pN 10425), (pN 10429), (pN 13769), (.ov 20004 11 1), (.map 13770), (.map 13771), .nils, z1, (iN 3), (iN 6), z0, .nilp, bT, (iN 5000), (oN 3), z0, z1, z0, z0, (uN 0), z0, tx6, tx6, bF, z0, .nils, z0, z0, (.map 13772)]))
noncomputable abbrev kb28 : Blk := (.cells 6 false [] (T.ofList 0 .leaf [z0, z0, (pN 14062), z1, (iN 12), .nilp]))
noncomputable abbrev kb29 : Blk := (.cells 6 false [] (T.ofList 0 .leaf [z0, z0, (pN 14062), z0, (iN 12), .nilp]))
noncomputable abbrev kb30 : Blk := (.cells 6 false [] (T.ofList 0 .leaf [z0, z0, (pN 14062), z1, (iN 5), .nilp]))
noncomputable abbrev kb31 : Blk := (.cells 6 false [] (T.ofList 0 .leaf [z0, z0, (pN 14062), z0, (iN 5), .nilp]))
abbrev ivE0 (v : Int) (r : Int) (wd : Int) (c0 : Int) (c1 : Int) (s : Nat) (d : Nat) : Nat → IntKind × Int
  | 0 => (.i64, v)
  | 1 => (.i64, r)
  | 2 => (.i64, wd)
  | 3 => (.i64, c0)
  | 4 => (.i64, c1)
  | 5 => (.i64, ((s : Nat) : Int))
  | 6 => (.i64, ((d : Nat) : Int))
  | 7 => (.i64, ((s + 1 : Nat) : Int))
  | 8 => (.i64, ((d + 1 : Nat) : Int))
  | 9 => (.i64, r + 1)
  | 10 => (.i64, c0 + 1)
  | 11 => (.i64, ((s + 2 : Nat) : Int))
  | 12 => (.i64, r + 2)
  | 13 => (.i64, c0 + 2)
  | 14 => (.i64, r + 3)
  | 15 => (.i64, c0 + 3)
  | 16 => (.i64, r + 4)
  | 17 => (.i64, c0 + 4)
  | 18 => (.i64, ((s + 3 : Nat) : Int))
  | 19 => (.i64, r + 5)
  | 20 => (.i64, c0 + 5)
  | 21 => (.i32, v)
  | 22 => (.i64, v - 1)
  | 23 => (.i32, v - 1)
  | 24 => (.i64, r + 6)
  | 25 => (.i64, c0 + 6)
  | 26 => (.i64, 2048 - wd)
  | 27 => (.i64, wd + 7)
  | 28 => (.i64, ((d + 2 : Nat) : Int))
  | _ => (.i64, 0)
abbrev vvE0 (s d : Nat) : Nat → Nat → Option AV
  | 0 => pv (s) 0 [(oN 0)]
  | 1 => pv (s) 1 [bF]
  | 2 => pv (7 * d) 2 [z0, z0, z0, (oN 5), z1, z2, z0]
  | 3 => pv (d) 3 [(pN 20005)]
  | 4 => pv (7 * d) 2 [z0, z0, z0, (oN 5), z1, z2, z1]
  | 5 => pv (s) 0 [(oN 0), (oN 0)]
  | 6 => pv (s) 1 [bF, bF]
  | 7 => pv (7 * d) 2 [z0, z0, z1, (oN 5), z1, z2, z1]
  | 8 => pv (7 * d) 2 [z0, z0, z1, (oN 5), z1, z2, z0]
  | 9 => pv (7 * d) 2 [z0, z0, (iN 6), (oN 5), z1, z2, z0]
  | 10 => pv (7 * d) 2 [z0, z0, (iN 6), (oN 5), z1, z2, z1]
  | 11 => pv (7 * d) 2 [z0, z0, (iN 7), (oN 5), z1, z2, z1]
  | 12 => pv (7 * d) 2 [z0, z0, (iN 7), (oN 5), z1, z2, z2]
  | 13 => pv (s) 0 [(oN 0), (oN 0), z1]
  | 14 => pv (s) 1 [bF, bF, bF]
  | 15 => pv (7 * d) 2 [z0, z0, (iN 8), (oN 5), z1, z2, z2]
  | 16 => pv (7 * d) 2 [z0, z0, (iN 8), (oN 5), z1, z2, z0]
  | 17 => pv (7 * d) 2 [z0, z0, (iN 8), (oN 5), z1, z2, z1]
  | 18 => pv (s) 0 [(oN 0), (oN 22)]
  | 19 => pv (7 * d) 2 [z0, z0, (iN 9), (oN 5), z1, z2, z1]
  | 20 => pv (7 * d) 2 [z0, z0, (iN 9), (oN 5), z1, z2, z0]
  | 21 => pv (7 * d) 2 [z0, z0, (iN 9), (oN 5), z1, z2, z0, z0, z1, z0, (oN 7), z1, z2, z0]
  | 22 => pv (s) 0 [(oN 0), z0]
  | 23 => pv (d) 3 [(pN 20005), (pN 20279)]
  | 24 => pv (7 * d) 2 [z0, z0, (iN 4), (oN 5), z1, z2, z0]
  | 25 => pv (7 * d) 2 [z0, z0, (iN 4), (oN 5), z1, z2, z1]
  | 26 => pv (s) 0 [(oN 0), z1]
  | _ => fun _ => none
abbrev vkE0 (s d : Nat) : Nat → Nat
  | 0 => pk (s) [(oN 0)]
  | 1 => pk (s) [bF]
  | 2 => pk (7 * d) [z0, z0, z0, (oN 5), z1, z2, z0]
  | 3 => pk (d) [(pN 20005)]
  | 4 => pk (7 * d) [z0, z0, z0, (oN 5), z1, z2, z1]
  | 5 => pk (s) [(oN 0), (oN 0)]
  | 6 => pk (s) [bF, bF]
  | 7 => pk (7 * d) [z0, z0, z1, (oN 5), z1, z2, z1]
  | 8 => pk (7 * d) [z0, z0, z1, (oN 5), z1, z2, z0]
  | 9 => pk (7 * d) [z0, z0, (iN 6), (oN 5), z1, z2, z0]
  | 10 => pk (7 * d) [z0, z0, (iN 6), (oN 5), z1, z2, z1]
  | 11 => pk (7 * d) [z0, z0, (iN 7), (oN 5), z1, z2, z1]
  | 12 => pk (7 * d) [z0, z0, (iN 7), (oN 5), z1, z2, z2]
  | 13 => pk (s) [(oN 0), (oN 0), z1]
  | 14 => pk (s) [bF, bF, bF]
  | 15 => pk (7 * d) [z0, z0, (iN 8), (oN 5), z1, z2, z2]
  | 16 => pk (7 * d) [z0, z0, (iN 8), (oN 5), z1, z2, z0]
  | 17 => pk (7 * d) [z0, z0, (iN 8), (oN 5), z1, z2, z1]
  | 18 => pk (s) [(oN 0), (oN 22)]
  | 19 => pk (7 * d) [z0, z0, (iN 9), (oN 5), z1, z2, z1]
  | 20 => pk (7 * d) [z0, z0, (iN 9), (oN 5), z1, z2, z0]
  | 21 => pk (7 * d) [z0, z0, (iN 9), (oN 5), z1, z2, z0, z0, z1, z0, (oN 7), z1, z2, z0]
  | 22 => pk (s) [(oN 0), z0]
  | 23 => pk (d) [(pN 20005), (pN 20279)]
  | 24 => pk (7 * d) [z0, z0, (iN 4), (oN 5), z1, z2, z0]
  | 25 => pk (7 * d) [z0, z0, (iN 4), (oN 5), z1, z2, z1]
  | 26 => pk (s) [(oN 0), z1]
  | _ => 0
theorem vpE0 (s d : Nat) : ∀ i m a, vvE0 s d i m = some a → vplain a = true
  | 0, _, _, h => pv_plainB rfl h
  | 1, _, _, h => pv_plainB rfl h
  | 2, _, _, h => pv_plainB rfl h
  | 3, _, _, h => pv_plainB rfl h
  | 4, _, _, h => pv_plainB rfl h
  | 5, _, _, h => pv_plainB rfl h
  | 6, _, _, h => pv_plainB rfl h
  | 7, _, _, h => pv_plainB rfl h
  | 8, _, _, h => pv_plainB rfl h
  | 9, _, _, h => pv_plainB rfl h
  | 10, _, _, h => pv_plainB rfl h
  | 11, _, _, h => pv_plainB rfl h
  | 12, _, _, h => pv_plainB rfl h
  | 13, _, _, h => pv_plainB rfl h
  | 14, _, _, h => pv_plainB rfl h
  | 15, _, _, h => pv_plainB rfl h
  | 16, _, _, h => pv_plainB rfl h
  | 17, _, _, h => pv_plainB rfl h
  | 18, _, _, h => pv_plainB rfl h
  | 19, _, _, h => pv_plainB rfl h
  | 20, _, _, h => pv_plainB rfl h
  | 21, _, _, h => pv_plainB rfl h
  | 22, _, _, h => pv_plainB rfl h
  | 23, _, _, h => pv_plainB rfl h
  | 24, _, _, h => pv_plainB rfl h
  | 25, _, _, h => pv_plainB rfl h
  | 26, _, _, h => pv_plainB rfl h
  | _ + 27, _, _, h => (by cases h)
abbrev PE0 (v : Int) (r : Int) (wd : Int) (c0 : Int) (c1 : Int) (s : Nat) (d : Nat) (rv : Nat → Value) : Tab := ((bare (ivE0 v r wd c0 c1 s d) (vvE0 s d) (vkE0 s d) (vpE0 s d)).rtab rv)
noncomputable abbrev bsE0 : BS := [(7168, 7168, (.map [(tx17, (pN 14062), 0)] 1)), (7169, 7169, kb0), (7170, 7170, kb1), (9584, 9584, kb2), (10426, 10426, (.map [(tx17, z0, 0)] 1)), (10428, 10428, kb3), (10429, 10429, kb4), (13769, 13769, kb5), (13770, 13770, kb6), (13771, 13771, (.map [(tx17, z0, 0)] 1)), (13772, 13772, kb7), (13773, 13773, kb8), (14062, 14062, kb9), (14064, 14064, kb10), (14502, 14502, kb11), (14826, 14826, kb12), (14870, 14870, kb13), (15194, 15194, kb14), (15200, 15200, kb15), (16578, 16578, kb17), (16583, 16583, kb18), (20000, 20000, kb16), (20001, 20001, (.vec 0)), (20002, 20002, (.vec 1)), (20003, 20003, (.vec 2)), (20004, 20004, (.vec 3)), (20005, 20005, kb19)]
def SE0 (v : Int) (r : Int) (wd : Int) (c0 : Int) (c1 : Int) (s : Nat) (d : Nat) (rv : Nat → Value) (B : Kp) (w0 : World) (μ : M) (a : Act) (w : World) : Prop := St (PE0 v r wd c0 c1 s d rv) B w0 μ Tryz.f47.ntmps (frOf fsR) (hOf 20010 bsE0) a w
abbrev ivE1 (v : Int) (r : Int) (wd : Int) (c0 : Int) (c1 : Int) (s : Nat) (d : Nat) : Nat → IntKind × Int
  | 0 => (.i64, v)
  | 1 => (.i64, r)
  | 2 => (.i64, wd)
  | 3 => (.i64, c0)
  | 4 => (.i64, c1)
  | 5 => (.i64, ((s : Nat) : Int))
  | 6 => (.i64, ((d : Nat) : Int))
  | 7 => (.i64, ((s + 1 : Nat) : Int))
  | 8 => (.i64, ((d + 1 : Nat) : Int))
  | 9 => (.i64, r + 1)
  | 10 => (.i64, c1 + 1)
  | 11 => (.i64, ((s + 2 : Nat) : Int))
  | 12 => (.i64, r + 2)
  | 13 => (.i64, c1 + 2)
  | 14 => (.i64, r + 3)
  | 15 => (.i64, c1 + 3)
  | 16 => (.i64, r + 4)
  | 17 => (.i64, c1 + 4)
  | 18 => (.i64, ((s + 3 : Nat) : Int))
  | 19 => (.i64, r + 5)
  | 20 => (.i64, c1 + 5)
  | 21 => (.i32, v)
  | 22 => (.i64, v - 1)
  | 23 => (.i32, v - 1)
  | 24 => (.i64, r + 6)
  | 25 => (.i64, c1 + 6)
  | 26 => (.i64, 2048 - wd)
  | 27 => (.i64, wd + 7)
  | 28 => (.i64, ((d + 2 : Nat) : Int))
  | _ => (.i64, 0)
abbrev vvE1 (s d : Nat) : Nat → Nat → Option AV
  | 0 => pv (s) 0 [(oN 0)]
  | 1 => pv (s) 1 [bF]
  | 2 => pv (7 * d) 2 [z0, z1, z0, (oN 5), z1, z2, z0]
  | 3 => pv (d) 3 [(pN 20005)]
  | 4 => pv (7 * d) 2 [z0, z1, z0, (oN 5), z1, z2, z1]
  | 5 => pv (s) 0 [(oN 0), (oN 0)]
  | 6 => pv (s) 1 [bF, bF]
  | 7 => pv (7 * d) 2 [z0, z1, z1, (oN 5), z1, z2, z1]
  | 8 => pv (7 * d) 2 [z0, z1, z1, (oN 5), z1, z2, z0]
  | 9 => pv (7 * d) 2 [z0, z1, (iN 6), (oN 5), z1, z2, z0]
  | 10 => pv (7 * d) 2 [z0, z1, (iN 6), (oN 5), z1, z2, z1]
  | 11 => pv (7 * d) 2 [z0, z1, (iN 7), (oN 5), z1, z2, z1]
  | 12 => pv (7 * d) 2 [z0, z1, (iN 7), (oN 5), z1, z2, z2]
  | 13 => pv (s) 0 [(oN 0), (oN 0), z1]
  | 14 => pv (s) 1 [bF, bF, bF]
  | 15 => pv (7 * d) 2 [z0, z1, (iN 8), (oN 5), z1, z2, z2]
  | 16 => pv (7 * d) 2 [z0, z1, (iN 8), (oN 5), z1, z2, z0]
  | 17 => pv (7 * d) 2 [z0, z1, (iN 8), (oN 5), z1, z2, z1]
  | 18 => pv (s) 0 [(oN 0), (oN 22)]
  | 19 => pv (7 * d) 2 [z0, z1, (iN 9), (oN 5), z1, z2, z1]
  | 20 => pv (7 * d) 2 [z0, z1, (iN 9), (oN 5), z1, z2, z0]
  | 21 => pv (7 * d) 2 [z0, z1, (iN 9), (oN 5), z1, z2, z0, z0, z0, z0, (oN 7), z1, z2, z0]
  | 22 => pv (s) 0 [(oN 0), z0]
  | 23 => pv (d) 3 [(pN 20005), (pN 20278)]
  | 24 => pv (7 * d) 2 [z0, z1, (iN 4), (oN 5), z1, z2, z0]
  | 25 => pv (7 * d) 2 [z0, z1, (iN 4), (oN 5), z1, z2, z1]
  | _ => fun _ => none
abbrev vkE1 (s d : Nat) : Nat → Nat
  | 0 => pk (s) [(oN 0)]
  | 1 => pk (s) [bF]
  | 2 => pk (7 * d) [z0, z1, z0, (oN 5), z1, z2, z0]
  | 3 => pk (d) [(pN 20005)]
  | 4 => pk (7 * d) [z0, z1, z0, (oN 5), z1, z2, z1]
  | 5 => pk (s) [(oN 0), (oN 0)]
  | 6 => pk (s) [bF, bF]
  | 7 => pk (7 * d) [z0, z1, z1, (oN 5), z1, z2, z1]
  | 8 => pk (7 * d) [z0, z1, z1, (oN 5), z1, z2, z0]
  | 9 => pk (7 * d) [z0, z1, (iN 6), (oN 5), z1, z2, z0]
  | 10 => pk (7 * d) [z0, z1, (iN 6), (oN 5), z1, z2, z1]
  | 11 => pk (7 * d) [z0, z1, (iN 7), (oN 5), z1, z2, z1]
  | 12 => pk (7 * d) [z0, z1, (iN 7), (oN 5), z1, z2, z2]
  | 13 => pk (s) [(oN 0), (oN 0), z1]
  | 14 => pk (s) [bF, bF, bF]
  | 15 => pk (7 * d) [z0, z1, (iN 8), (oN 5), z1, z2, z2]
  | 16 => pk (7 * d) [z0, z1, (iN 8), (oN 5), z1, z2, z0]
  | 17 => pk (7 * d) [z0, z1, (iN 8), (oN 5), z1, z2, z1]
  | 18 => pk (s) [(oN 0), (oN 22)]
  | 19 => pk (7 * d) [z0, z1, (iN 9), (oN 5), z1, z2, z1]
  | 20 => pk (7 * d) [z0, z1, (iN 9), (oN 5), z1, z2, z0]
  | 21 => pk (7 * d) [z0, z1, (iN 9), (oN 5), z1, z2, z0, z0, z0, z0, (oN 7), z1, z2, z0]
  | 22 => pk (s) [(oN 0), z0]
  | 23 => pk (d) [(pN 20005), (pN 20278)]
  | 24 => pk (7 * d) [z0, z1, (iN 4), (oN 5), z1, z2, z0]
  | 25 => pk (7 * d) [z0, z1, (iN 4), (oN 5), z1, z2, z1]
  | _ => 0
theorem vpE1 (s d : Nat) : ∀ i m a, vvE1 s d i m = some a → vplain a = true
  | 0, _, _, h => pv_plainB rfl h
  | 1, _, _, h => pv_plainB rfl h
  | 2, _, _, h => pv_plainB rfl h
  | 3, _, _, h => pv_plainB rfl h
  | 4, _, _, h => pv_plainB rfl h
  | 5, _, _, h => pv_plainB rfl h
  | 6, _, _, h => pv_plainB rfl h
  | 7, _, _, h => pv_plainB rfl h
  | 8, _, _, h => pv_plainB rfl h
  | 9, _, _, h => pv_plainB rfl h
  | 10, _, _, h => pv_plainB rfl h
  | 11, _, _, h => pv_plainB rfl h
  | 12, _, _, h => pv_plainB rfl h
  | 13, _, _, h => pv_plainB rfl h
  | 14, _, _, h => pv_plainB rfl h
  | 15, _, _, h => pv_plainB rfl h
  | 16, _, _, h => pv_plainB rfl h
  | 17, _, _, h => pv_plainB rfl h
  | 18, _, _, h => pv_plainB rfl h
  | 19, _, _, h => pv_plainB rfl h
  | 20, _, _, h => pv_plainB rfl h
  | 21, _, _, h => pv_plainB rfl h
  | 22, _, _, h => pv_plainB rfl h
  | 23, _, _, h => pv_plainB rfl h
  | 24, _, _, h => pv_plainB rfl h
  | 25, _, _, h => pv_plainB rfl h
  | _ + 26, _, _, h => (by cases h)
abbrev PE1 (v : Int) (r : Int) (wd : Int) (c0 : Int) (c1 : Int) (s : Nat) (d : Nat) (rv : Nat → Value) : Tab := ((bare (ivE1 v r wd c0 c1 s d) (vvE1 s d) (vkE1 s d) (vpE1 s d)).rtab rv)
noncomputable abbrev bsE1 : BS := [(7168, 7168, (.map [(tx17, (pN 14062), 0)] 1)), (7169, 7169, kb0), (7170, 7170, kb1), (9584, 9584, kb2), (10426, 10426, (.map [(tx17, z0, 0)] 1)), (10428, 10428, kb3), (10429, 10429, kb4), (13769, 13769, kb5), (13770, 13770, kb6), (13771, 13771, (.map [(tx17, z0, 0)] 1)), (13772, 13772, kb7), (13773, 13773, kb8), (14062, 14062, kb9), (14064, 14064, kb10), (14502, 14502, kb11), (14826, 14826, kb12), (14870, 14870, kb13), (15194, 15194, kb14), (15200, 15200, kb15), (16578, 16578, kb17), (16583, 16583, kb18), (20000, 20000, kb16), (20001, 20001, (.vec 0)), (20002, 20002, (.vec 1)), (20003, 20003, (.vec 2)), (20004, 20004, (.vec 3)), (20005, 20005, kb20)]
def SE1 (v : Int) (r : Int) (wd : Int) (c0 : Int) (c1 : Int) (s : Nat) (d : Nat) (rv : Nat → Value) (B : Kp) (w0 : World) (μ : M) (a : Act) (w : World) : Prop := St (PE1 v r wd c0 c1 s d rv) B w0 μ Tryz.f47.ntmps (frOf fsR) (hOf 20010 bsE1) a w
abbrev ivE20 (v : Int) (r : Int) (wd : Int) (c0 : Int) (c1 : Int) (s : Nat) (d : Nat) : Nat → IntKind × Int
  | 0 => (.i64, ((s + 2 : Nat) : Int))
  | 1 => (.i64, ((d + 2 : Nat) : Int))
  | 2 => (.i64, wd + 7)
  | 3 => (.i64, c0 + 6)
  | 4 => (.i64, c1)
  | 5 => (.i64, r + 6)
  | 6 => (.i64, v)
  | 7 => (.i64, v - 1)
  | 8 => (.i64, ((s : Nat) : Int))
  | 9 => (.i64, ((s + 1 : Nat) : Int))
  | _ => (.i64, 0)
abbrev vvE20 (s d : Nat) : Nat → Nat → Option AV
  | 0 => pv (s) 0 [(oN 6), (oN 7)]
  | 1 => pv (s) 1 [bF, bF]
  | 2 => pv (7 * d) 2 [z0, z0, (iN 9), (oN 8), z1, z2, z0, z0, z1, z0, (oN 9), z1, z2, z0]
  | 3 => pv (d) 3 [(pN 20006), (pN 20005)]
  | _ => fun _ => none
abbrev vkE20 (s d : Nat) : Nat → Nat
  | 0 => pk (s) [(oN 6), (oN 7)]
  | 1 => pk (s) [bF, bF]
  | 2 => pk (7 * d) [z0, z0, (iN 9), (oN 8), z1, z2, z0, z0, z1, z0, (oN 9), z1, z2, z0]
  | 3 => pk (d) [(pN 20006), (pN 20005)]
  | _ => 0
theorem vpE20 (s d : Nat) : ∀ i m a, vvE20 s d i m = some a → vplain a = true
  | 0, _, _, h => pv_plainB rfl h
  | 1, _, _, h => pv_plainB rfl h
  | 2, _, _, h => pv_plainB rfl h
  | 3, _, _, h => pv_plainB rfl h
  | _ + 4, _, _, h => (by cases h)
abbrev PE20 (v : Int) (r : Int) (wd : Int) (c0 : Int) (c1 : Int) (s : Nat) (d : Nat) (rv : Nat → Value) : Tab := ((bare (ivE20 v r wd c0 c1 s d) (vvE20 s d) (vkE20 s d) (vpE20 s d)).rtab rv)
noncomputable abbrev bsE20 : BS := [(7168, 7168, (.map [(tx17, (pN 14062), 0)] 1)), (7169, 7169, kb0), (7170, 7170, kb1), (9584, 9584, kb2), (10426, 10426, (.map [(tx17, z0, 0)] 1)), (10428, 10428, kb3), (10429, 10429, kb4), (13769, 13769, kb21), (13770, 13770, kb6), (13771, 13771, (.map [(tx17, z0, 0)] 1)), (13772, 13772, kb7), (13773, 13773, kb22), (14062, 14062, kb9), (14064, 14064, kb10), (14502, 14502, kb11), (14826, 14826, kb12), (14870, 14870, kb13), (15194, 15194, kb14), (15200, 15200, kb15), (16578, 16578, kb17), (16583, 16583, kb18), (20000, 20000, kb16), (20001, 20001, (.vec 0)), (20002, 20002, (.vec 1)), (20003, 20003, (.vec 2)), (20004, 20004, (.vec 3)), (20005, 20005, kb20), (20006, 20006, kb23)]
def SE20 (v : Int) (r : Int) (wd : Int) (c0 : Int) (c1 : Int) (s : Nat) (d : Nat) (rv : Nat → Value) (B : Kp) (w0 : World) (μ : M) (a : Act) (w : World) : Prop := St (PE20 v r wd c0 c1 s d rv) B w0 μ Tryz.f47.ntmps (frOf fsR) (hOf 20010 bsE20) a w
abbrev ivE21 (v : Int) (r : Int) (wd : Int) (c0 : Int) (c1 : Int) (s : Nat) (d : Nat) : Nat → IntKind × Int
  | 0 => (.i64, ((s + 2 : Nat) : Int))
  | 1 => (.i64, ((d + 2 : Nat) : Int))
  | 2 => (.i64, wd + 7)
  | 3 => (.i64, c0)
  | 4 => (.i64, c1 + 6)
  | 5 => (.i64, r + 6)
  | 6 => (.i64, v)
  | 7 => (.i64, v - 1)
  | 8 => (.i64, ((s : Nat) : Int))
  | 9 => (.i64, ((s + 1 : Nat) : Int))
  | _ => (.i64, 0)
abbrev vvE21 (s d : Nat) : Nat → Nat → Option AV
  | 0 => pv (s) 0 [(oN 6), (oN 7)]
  | 1 => pv (s) 1 [bF, bF]
  | 2 => pv (7 * d) 2 [z0, z1, (iN 9), (oN 8), z1, z2, z0, z0, z0, z0, (oN 9), z1, z2, z0]
  | 3 => pv (d) 3 [(pN 20006), (pN 20005)]
  | _ => fun _ => none
abbrev vkE21 (s d : Nat) : Nat → Nat
  | 0 => pk (s) [(oN 6), (oN 7)]
  | 1 => pk (s) [bF, bF]
  | 2 => pk (7 * d) [z0, z1, (iN 9), (oN 8), z1, z2, z0, z0, z0, z0, (oN 9), z1, z2, z0]
  | 3 => pk (d) [(pN 20006), (pN 20005)]
  | _ => 0
theorem vpE21 (s d : Nat) : ∀ i m a, vvE21 s d i m = some a → vplain a = true
  | 0, _, _, h => pv_plainB rfl h
  | 1, _, _, h => pv_plainB rfl h
  | 2, _, _, h => pv_plainB rfl h
  | 3, _, _, h => pv_plainB rfl h
  | _ + 4, _, _, h => (by cases h)
abbrev PE21 (v : Int) (r : Int) (wd : Int) (c0 : Int) (c1 : Int) (s : Nat) (d : Nat) (rv : Nat → Value) : Tab := ((bare (ivE21 v r wd c0 c1 s d) (vvE21 s d) (vkE21 s d) (vpE21 s d)).rtab rv)
noncomputable abbrev bsE21 : BS := [(7168, 7168, (.map [(tx17, (pN 14062), 0)] 1)), (7169, 7169, kb0), (7170, 7170, kb1), (9584, 9584, kb2), (10426, 10426, (.map [(tx17, z0, 0)] 1)), (10428, 10428, kb3), (10429, 10429, kb4), (13769, 13769, kb21), (13770, 13770, kb6), (13771, 13771, (.map [(tx17, z0, 0)] 1)), (13772, 13772, kb7), (13773, 13773, kb22), (14062, 14062, kb9), (14064, 14064, kb10), (14502, 14502, kb11), (14826, 14826, kb12), (14870, 14870, kb13), (15194, 15194, kb14), (15200, 15200, kb15), (16578, 16578, kb17), (16583, 16583, kb18), (20000, 20000, kb16), (20001, 20001, (.vec 0)), (20002, 20002, (.vec 1)), (20003, 20003, (.vec 2)), (20004, 20004, (.vec 3)), (20005, 20005, kb19), (20006, 20006, kb24)]
def SE21 (v : Int) (r : Int) (wd : Int) (c0 : Int) (c1 : Int) (s : Nat) (d : Nat) (rv : Nat → Value) (B : Kp) (w0 : World) (μ : M) (a : Act) (w : World) : Prop := St (PE21 v r wd c0 c1 s d rv) B w0 μ Tryz.f47.ntmps (frOf fsR) (hOf 20010 bsE21) a w
abbrev ivC012 (v : Int) (u : Int) (res : Int) (r : Int) (wd : Int) (c0 : Int) (c1 : Int) (s : Nat) (d : Nat) : Nat → IntKind × Int
  | 0 => (.i64, v)
  | 1 => (.i64, u)
  | 2 => (.i64, res)
  | 3 => (.i64, r)
  | 4 => (.i64, wd)
  | 5 => (.i64, c0)
  | 6 => (.i64, c1)
  | 7 => (.i64, ((s : Nat) : Int))
  | 8 => (.i64, ((s + 1 : Nat) : Int))
  | 9 => (.i64, ((d : Nat) : Int))
  | 10 => (.i64, ((s + 3 : Nat) : Int))
  | 11 => (.i64, ((d + 2 : Nat) : Int))
  | 12 => (.i64, ((d + 1 : Nat) : Int))
  | 13 => (.i64, r + 1)
  | 14 => (.i64, c1 + 1)
  | 15 => (.i64, ((s + 2 : Nat) : Int))
  | 16 => (.i64, wd - 7)
  | _ => (.i64, 0)
abbrev vvC012 (s d : Nat) : Nat → Nat → Option AV
  | 0 => pv (s) 0 [(oN 0), (oN 1), (oN 2)]
  | 1 => pv (s) 1 [bF, bF, bF]
  | 2 => pv (7 * d) 2 [z0, z0, (iN 9), (oN 7), z1, z2, z0, z0, z1, (iN 9), (oN 8), z1, z2, z1]
  | 3 => pv (d) 3 [(pN 20010), (pN 20005)]
  | 4 => pv (7 * d) 2 [z0, z0, (iN 9), (oN 7), z1, z2, z0, z0, z1, (iN 12), (oN 8), z1, z2, z1]
  | 5 => pv (7 * d) 2 [z0, z0, (iN 9), (oN 7), z1, z2, z0, z0, z1, (iN 12), (oN 8), z1, z2, z0]
  | 6 => pv (7 * d) 2 [z0, z0, (iN 9), (oN 7), z1, z2, z1, z0, z1, (iN 12), (oN 8), z1, z2, z0]
  | 7 => pv (s) 0 [(oN 0), (oN 2)]
  | 8 => pv (s) 1 [bF, bF]
  | _ => fun _ => none
abbrev vkC012 (s d : Nat) : Nat → Nat
  | 0 => pk (s) [(oN 0), (oN 1), (oN 2)]
  | 1 => pk (s) [bF, bF, bF]
  | 2 => pk (7 * d) [z0, z0, (iN 9), (oN 7), z1, z2, z0, z0, z1, (iN 9), (oN 8), z1, z2, z1]
  | 3 => pk (d) [(pN 20010), (pN 20005)]
  | 4 => pk (7 * d) [z0, z0, (iN 9), (oN 7), z1, z2, z0, z0, z1, (iN 12), (oN 8), z1, z2, z1]
  | 5 => pk (7 * d) [z0, z0, (iN 9), (oN 7), z1, z2, z0, z0, z1, (iN 12), (oN 8), z1, z2, z0]
  | 6 => pk (7 * d) [z0, z0, (iN 9), (oN 7), z1, z2, z1, z0, z1, (iN 12), (oN 8), z1, z2, z0]
  | 7 => pk (s) [(oN 0), (oN 2)]
  | 8 => pk (s) [bF, bF]
  | _ => 0
theorem vpC012 (s d : Nat) : ∀ i m a, vvC012 s d i m = some a → vplain a = true
  | 0, _, _, h => pv_plainB rfl h
  | 1, _, _, h => pv_plainB rfl h
  | 2, _, _, h => pv_plainB rfl h
  | 3, _, _, h => pv_plainB rfl h
  | 4, _, _, h => pv_plainB rfl h
  | 5, _, _, h => pv_plainB rfl h
  | 6, _, _, h => pv_plainB rfl h
  | 7, _, _, h => pv_plainB rfl h
  | 8, _, _, h => pv_plainB rfl h
  | _ + 9, _, _, h => (by cases h)
abbrev PC012 (v : Int) (u : Int) (res : Int) (r : Int) (wd : Int) (c0 : Int) (c1 : Int) (s : Nat) (d : Nat) (rv : Nat → Value) : Tab := ((bare (ivC012 v u res r wd c0 c1 s d) (vvC012 s d) (vkC012 s d) (vpC012 s d)).rtab rv)
noncomputable abbrev bsC012 : BS := [(7168, 7168, (.map [(tx17, (pN 14062), 0)] 1)), (7169, 7169, kb0), (7170, 7170, kb1), (9584, 9584, kb2), (10426, 10426, (.map [(tx17, z0, 0)] 1)), (10428, 10428, kb3), (10429, 10429, kb4), (13769, 13769, kb25), (13770, 13770, kb6), (13771, 13771, (.map [(tx17, z0, 0)] 1)), (13772, 13772, kb26), (13773, 13773, kb27), (14062, 14062, kb9), (14064, 14064, kb10), (14502, 14502, kb11), (14826, 14826, kb12), (14870, 14870, kb13), (15194, 15194, kb14), (15200, 15200, kb15), (16578, 16578, kb17), (16583, 16583, kb18), (20000, 20000, kb16), (20001, 20001, (.vec 0)), (20002, 20002, (.vec 1)), (20003, 20003, (.vec 2)), (20004, 20004, (.vec 3)), (20005, 20005, kb28), (20010, 20010, kb23)]
def SC012 (v : Int) (u : Int) (res : Int) (r : Int) (wd : Int) (c0 : Int) (c1 : Int) (s : Nat) (d : Nat) (rv : Nat → Value) (B : Kp) (w0 : World) (μ : M) (a : Act) (w : World) : Prop := St (PC012 v u res r wd c0 c1 s d rv) B w0 μ Tryz.f47.ntmps (frOf fsR) (hOf 20011 bsC012) a w
abbrev ivC112 (v : Int) (u : Int) (res : Int) (r : Int) (wd : Int) (c0 : Int) (c1 : Int) (s : Nat) (d : Nat) : Nat → IntKind × Int
  | 0 => (.i64, v)
  | 1 => (.i64, u)
  | 2 => (.i64, res)
  | 3 => (.i64, r)
  | 4 => (.i64, wd)
  | 5 => (.i64, c0)
  | 6 => (.i64, c1)
  | 7 => (.i64, ((s : Nat) : Int))
  | 8 => (.i64, ((s + 1 : Nat) : Int))
  | 9 => (.i64, ((d : Nat) : Int))
  | 10 => (.i64, ((s + 3 : Nat) : Int))
  | 11 => (.i64, ((d + 2 : Nat) : Int))
  | 12 => (.i64, ((d + 1 : Nat) : Int))
  | 13 => (.i64, r + 1)
  | 14 => (.i64, c0 + 1)
  | 15 => (.i64, ((s + 2 : Nat) : Int))
  | 16 => (.i64, wd - 7)
  | _ => (.i64, 0)
abbrev vvC112 (s d : Nat) : Nat → Nat → Option AV
  | 0 => pv (s) 0 [(oN 0), (oN 1), (oN 2)]
  | 1 => pv (s) 1 [bF, bF, bF]
  | 2 => pv (7 * d) 2 [z0, z1, (iN 9), (oN 7), z1, z2, z0, z0, z0, (iN 9), (oN 8), z1, z2, z1]
  | 3 => pv (d) 3 [(pN 20010), (pN 20005)]
  | 4 => pv (7 * d) 2 [z0, z1, (iN 9), (oN 7), z1, z2, z0, z0, z0, (iN 12), (oN 8), z1, z2, z1]
  | 5 => pv (7 * d) 2 [z0, z1, (iN 9), (oN 7), z1, z2, z0, z0, z0, (iN 12), (oN 8), z1, z2, z0]
  | 6 => pv (7 * d) 2 [z0, z1, (iN 9), (oN 7), z1, z2, z1, z0, z0, (iN 12), (oN 8), z1, z2, z0]
  | 7 => pv (s) 0 [(oN 0), (oN 2)]
  | 8 => pv (s) 1 [bF, bF]
  | _ => fun _ => none
abbrev vkC112 (s d : Nat) : Nat → Nat
  | 0 => pk (s) [(oN 0), (oN 1), (oN 2)]
  | 1 => pk (s) [bF, bF, bF]
  | 2 => pk (7 * d) [z0, z1, (iN 9), (oN 7), z1, z2, z0, z0, z0, (iN 9), (oN 8), z1, z2, z1]
  | 3 => pk (d) [(pN 20010), (pN 20005)]
  | 4 => pk (7 * d) [z0, z1, (iN 9), (oN 7), z1, z2, z0, z0, z0, (iN 12), (oN 8), z1, z2, z1]
  | 5 => pk (7 * d) [z0, z1, (iN 9), (oN 7), z1, z2, z0, z0, z0, (iN 12), (oN 8), z1, z2, z0]
  | 6 => pk (7 * d) [z0, z1, (iN 9), (oN 7), z1, z2, z1, z0, z0, (iN 12), (oN 8), z1, z2, z0]
  | 7 => pk (s) [(oN 0), (oN 2)]
  | 8 => pk (s) [bF, bF]
  | _ => 0
theorem vpC112 (s d : Nat) : ∀ i m a, vvC112 s d i m = some a → vplain a = true
  | 0, _, _, h => pv_plainB rfl h
  | 1, _, _, h => pv_plainB rfl h
  | 2, _, _, h => pv_plainB rfl h
  | 3, _, _, h => pv_plainB rfl h
  | 4, _, _, h => pv_plainB rfl h
  | 5, _, _, h => pv_plainB rfl h
  | 6, _, _, h => pv_plainB rfl h
  | 7, _, _, h => pv_plainB rfl h
  | 8, _, _, h => pv_plainB rfl h
  | _ + 9, _, _, h => (by cases h)
abbrev PC112 (v : Int) (u : Int) (res : Int) (r : Int) (wd : Int) (c0 : Int) (c1 : Int) (s : Nat) (d : Nat) (rv : Nat → Value) : Tab := ((bare (ivC112 v u res r wd c0 c1 s d) (vvC112 s d) (vkC112 s d) (vpC112 s d)).rtab rv)
noncomputable abbrev bsC112 : BS := [(7168, 7168, (.map [(tx17, (pN 14062), 0)] 1)), (7169, 7169, kb0), (7170, 7170, kb1), (9584, 9584, kb2), (10426, 10426, (.map [(tx17, z0, 0)] 1)), (10428, 10428, kb3), (10429, 10429, kb4), (13769, 13769, kb25), (13770, 13770, kb6), (13771, 13771, (.map [(tx17, z0, 0)] 1)), (13772, 13772, kb26), (13773, 13773, kb27), (14062, 14062, kb9), (14064, 14064, kb10), (14502, 14502, kb11), (14826, 14826, kb12), (14870, 14870, kb13), (15194, 15194, kb14), (15200, 15200, kb15), (16578, 16578, kb17), (16583, 16583, kb18), (20000, 20000, kb16), (20001, 20001, (.vec 0)), (20002, 20002, (.vec 1)), (20003, 20003, (.vec 2)), (20004, 20004, (.vec 3)), (20005, 20005, kb29), (20010, 20010, kb24)]
def SC112 (v : Int) (u : Int) (res : Int) (r : Int) (wd : Int) (c0 : Int) (c1 : Int) (s : Nat) (d : Nat) (rv : Nat → Value) (B : Kp) (w0 : World) (μ : M) (a : Act) (w : World) : Prop := St (PC112 v u res r wd c0 c1 s d rv) B w0 μ Tryz.f47.ntmps (frOf fsR) (hOf 20011 bsC112) a w
abbrev ivC05 (v : Int) (u : Int) (res : Int) (r : Int) (wd : Int) (c0 : Int) (c1 : Int) (s : Nat) (d : Nat) : Nat → IntKind × Int
  | 0 => (.i64, v)
  | 1 => (.i64, u)
  | 2 => (.i64, res)
  | 3 => (.i64, r)
  | 4 => (.i64, wd)
  | 5 => (.i64, c0)
  | 6 => (.i64, c1)
  | 7 => (.i64, ((s : Nat) : Int))
  | 8 => (.i64, ((s + 1 : Nat) : Int))
  | 9 => (.i64, ((d : Nat) : Int))
  | 10 => (.i64, ((s + 3 : Nat) : Int))
  | 11 => (.i64, ((d + 2 : Nat) : Int))
  | 12 => (.i64, ((d + 1 : Nat) : Int))
  | 13 => (.i64, r + 1)
  | 14 => (.i64, c1 + 1)
  | 15 => (.i64, ((s + 2 : Nat) : Int))
  | 16 => (.i64, wd - 7)
  | _ => (.i64, 0)
abbrev vvC05 (s d : Nat) : Nat → Nat → Option AV
  | 0 => pv (s) 0 [(oN 0), (oN 1), (oN 2)]
  | 1 => pv (s) 1 [bF, bF, bF]
  | 2 => pv (7 * d) 2 [z0, z0, (iN 9), (oN 7), z1, z2, z0, z0, z1, (iN 4), (oN 8), z1, z2, z1]
  | 3 => pv (d) 3 [(pN 20010), (pN 20005)]
  | 4 => pv (7 * d) 2 [z0, z0, (iN 9), (oN 7), z1, z2, z0, z0, z1, (iN 5), (oN 8), z1, z2, z1]
  | 5 => pv (7 * d) 2 [z0, z0, (iN 9), (oN 7), z1, z2, z0, z0, z1, (iN 5), (oN 8), z1, z2, z0]
  | 6 => pv (7 * d) 2 [z0, z0, (iN 9), (oN 7), z1, z2, z1, z0, z1, (iN 5), (oN 8), z1, z2, z0]
  | 7 => pv (s) 0 [(oN 0), (oN 2)]
  | 8 => pv (s) 1 [bF, bF]
  | _ => fun _ => none
abbrev vkC05 (s d : Nat) : Nat → Nat
  | 0 => pk (s) [(oN 0), (oN 1), (oN 2)]
  | 1 => pk (s) [bF, bF, bF]
  | 2 => pk (7 * d) [z0, z0, (iN 9), (oN 7), z1, z2, z0, z0, z1, (iN 4), (oN 8), z1, z2, z1]
  | 3 => pk (d) [(pN 20010), (pN 20005)]
  | 4 => pk (7 * d) [z0, z0, (iN 9), (oN 7), z1, z2, z0, z0, z1, (iN 5), (oN 8), z1, z2, z1]
  | 5 => pk (7 * d) [z0, z0, (iN 9), (oN 7), z1, z2, z0, z0, z1, (iN 5), (oN 8), z1, z2, z0]
  | 6 => pk (7 * d) [z0, z0, (iN 9), (oN 7), z1, z2, z1, z0, z1, (iN 5), (oN 8), z1, z2, z0]
  | 7 => pk (s) [(oN 0), (oN 2)]
  | 8 => pk (s) [bF, bF]
  | _ => 0
theorem vpC05 (s d : Nat) : ∀ i m a, vvC05 s d i m = some a → vplain a = true
  | 0, _, _, h => pv_plainB rfl h
  | 1, _, _, h => pv_plainB rfl h
  | 2, _, _, h => pv_plainB rfl h
  | 3, _, _, h => pv_plainB rfl h
  | 4, _, _, h => pv_plainB rfl h
  | 5, _, _, h => pv_plainB rfl h
  | 6, _, _, h => pv_plainB rfl h
  | 7, _, _, h => pv_plainB rfl h
  | 8, _, _, h => pv_plainB rfl h
  | _ + 9, _, _, h => (by cases h)
abbrev PC05 (v : Int) (u : Int) (res : Int) (r : Int) (wd : Int) (c0 : Int) (c1 : Int) (s : Nat) (d : Nat) (rv : Nat → Value) : Tab := ((bare (ivC05 v u res r wd c0 c1 s d) (vvC05 s d) (vkC05 s d) (vpC05 s d)).rtab rv)
noncomputable abbrev bsC05 : BS := [(7168, 7168, (.map [(tx17, (pN 14062), 0)] 1)), (7169, 7169, kb0), (7170, 7170, kb1), (9584, 9584, kb2), (10426, 10426, (.map [(tx17, z0, 0)] 1)), (10428, 10428, kb3), (10429, 10429, kb4), (13769, 13769, kb25), (13770, 13770, kb6), (13771, 13771, (.map [(tx17, z0, 0)] 1)), (13772, 13772, kb26), (13773, 13773, kb27), (14062, 14062, kb9), (14064, 14064, kb10), (14502, 14502, kb11), (14826, 14826, kb12), (14870, 14870, kb13), (15194, 15194, kb14), (15200, 15200, kb15), (16578, 16578, kb17), (16583, 16583, kb18), (20000, 20000, kb16), (20001, 20001, (.vec 0)), (20002, 20002, (.vec 1)), (20003, 20003, (.vec 2)), (20004, 20004, (.vec 3)), (20005, 20005, kb30), (20010, 20010, kb23)]
def SC05 (v : Int) (u : Int) (res : Int) (r : Int) (wd : Int) (c0 : Int) (c1 : Int) (s : Nat) (d : Nat) (rv : Nat → Value) (B : Kp) (w0 : World) (μ : M) (a : Act) (w : World) : Prop := St (PC05 v u res r wd c0 c1 s d rv) B w0 μ Tryz.f47.ntmps (frOf fsR) (hOf 20011 bsC05) a w
abbrev ivC15 (v : Int) (u : Int) (res : Int) (r : Int) (wd : Int) (c0 : Int) (c1 : Int) (s : Nat) (d : Nat) : Nat → IntKind × Int
  | 0 => (.i64, v)
  | 1 => (.i64, u)
  | 2 => (.i64, res)
  | 3 => (.i64, r)
  | 4 => (.i64, wd)
  | 5 => (.i64, c0)
  | 6 => (.i64, c1)
  | 7 => (.i64, ((s : Nat) : Int))
  | 8 => (.i64, ((s + 1 : Nat) : Int))
  | 9 => (.i64, ((d : Nat) : Int))
  | 10 => (.i64, ((s + 3 : Nat) : Int))
  | 11 => (.i64, ((d + 2 : Nat) : Int))
  | 12 => (.i64, ((d + 1 : Nat) : Int))
  | 13 => (.i64, r + 1)
  | 14 => (.i64, c0 + 1)
  | 15 => (.i64, ((s + 2 : Nat) : Int))
  | 16 => (.i64, wd - 7)
  | _ => (.i64, 0)
abbrev vvC15 (s d : Nat) : Nat → Nat → Option AV
  | 0 => pv (s) 0 [(oN 0), (oN 1), (oN 2)]
  | 1 => pv (s) 1 [bF, bF, bF]
  | 2 => pv (7 * d) 2 [z0, z1, (iN 9), (oN 7), z1, z2, z0, z0, z0, (iN 4), (oN 8), z1, z2, z1]
  | 3 => pv (d) 3 [(pN 20010), (pN 20005)]
  | 4 => pv (7 * d) 2 [z0, z1, (iN 9), (oN 7), z1, z2, z0, z0, z0, (iN 5), (oN 8), z1, z2, z1]
  | 5 => pv (7 * d) 2 [z0, z1, (iN 9), (oN 7), z1, z2, z0, z0, z0, (iN 5), (oN 8), z1, z2, z0]
  | 6 => pv (7 * d) 2 [z0, z1, (iN 9), (oN 7), z1, z2, z1, z0, z0, (iN 5), (oN 8), z1, z2, z0]
  | 7 => pv (s) 0 [(oN 0), (oN 2)]
  | 8 => pv (s) 1 [bF, bF]
  | _ => fun _ => none
abbrev vkC15 (s d : Nat) : Nat → Nat
  | 0 => pk (s) [(oN 0), (oN 1), (oN 2)]
  | 1 => pk (s) [bF, bF, bF]
  | 2 => pk (7 * d) [z0, z1, (iN 9), (oN 7), z1, z2, z0, z0, z0, (iN 4), (oN 8), z1, z2, z1]
  | 3 => pk (d) [(pN 20010), (pN 20005)]
  | 4 => pk (7 * d) [z0, z1, (iN 9), (oN 7), z1, z2, z0, z0, z0, (iN 5), (oN 8), z1, z2, z1]
  | 5 => pk (7 * d) [z0, z1, (iN 9), (oN 7), z1, z2, z0, z0, z0, (iN 5), (oN 8), z1, z2, z0]
  | 6 => pk (7 * d) [z0, z1, (iN 9), (oN 7), z1, z2, z1, z0, z0, (iN 5), (oN 8), z1, z2, z0]
  | 7 => pk (s) [(oN 0), (oN 2)]
  | 8 => pk (s) [bF, bF]
  | _ => 0
theorem vpC15 (s d : Nat) : ∀ i m a, vvC15 s d i m = some a → vplain a = true
  | 0, _, _, h => pv_plainB rfl h
  | 1, _, _, h => pv_plainB rfl h
  | 2, _, _, h => pv_plainB rfl h
  | 3, _, _, h => pv_plainB rfl h
  | 4, _, _, h => pv_plainB rfl h
  | 5, _, _, h => pv_plainB rfl h
  | 6, _, _, h => pv_plainB rfl h
  | 7, _, _, h => pv_plainB rfl h
  | 8, _, _, h => pv_plainB rfl h
  | _ + 9, _, _, h => (by cases h)
abbrev PC15 (v : Int) (u : Int) (res : Int) (r : Int) (wd : Int) (c0 : Int) (c1 : Int) (s : Nat) (d : Nat) (rv : Nat → Value) : Tab := ((bare (ivC15 v u res r wd c0 c1 s d) (vvC15 s d) (vkC15 s d) (vpC15 s d)).rtab rv)
noncomputable abbrev bsC15 : BS := [(7168, 7168, (.map [(tx17, (pN 14062), 0)] 1)), (7169, 7169, kb0), (7170, 7170, kb1), (9584, 9584, kb2), (10426, 10426, (.map [(tx17, z0, 0)] 1)), (10428, 10428, kb3), (10429, 10429, kb4), (13769, 13769, kb25), (13770, 13770, kb6), (13771, 13771, (.map [(tx17, z0, 0)] 1)), (13772, 13772, kb26), (13773, 13773, kb27), (14062, 14062, kb9), (14064, 14064, kb10), (14502, 14502, kb11), (14826, 14826, kb12), (14870, 14870, kb13), (15194, 15194, kb14), (15200, 15200, kb15), (16578, 16578, kb17), (16583, 16583, kb18), (20000, 20000, kb16), (20001, 20001, (.vec 0)), (20002, 20002, (.vec 1)), (20003, 20003, (.vec 2)), (20004, 20004, (.vec 3)), (20005, 20005, kb31), (20010, 20010, kb24)]
def SC15 (v : Int) (u : Int) (res : Int) (r : Int) (wd : Int) (c0 : Int) (c1 : Int) (s : Nat) (d : Nat) (rv : Nat → Value) (B : Kp) (w0 : World) (μ : M) (a : Act) (w : World) : Prop := St (PC15 v u res r wd c0 c1 s d rv) B w0 μ Tryz.f47.ntmps (frOf fsR) (hOf 20011 bsC15) a w
abbrev ivR112 (u : Int) (res : Int) (r : Int) (wd : Int) (c0 : Int) (c1 : Int) (s : Nat) (d : Nat) : Nat → IntKind × Int
  | 0 => (.i64, ((s + 2 : Nat) : Int))
  | 1 => (.i64, ((d + 1 : Nat) : Int))
  | 2 => (.i64, wd)
  | 3 => (.i64, c0)
  | 4 => (.i64, c1)
  | 5 => (.i64, r)
  | 6 => (.i64, u)
  | 7 => (.i64, res)
  | 8 => (.i64, ((s : Nat) : Int))
  | _ => (.i64, 0)
abbrev vvR112 (s d : Nat) : Nat → Nat → Option AV
  | 0 => pv (s) 0 [(oN 6), (oN 7)]
  | 1 => pv (s) 1 [bF, bF]
  | 2 => pv (7 * d) 2 [z0, z1, (iN 9), (oN 8), z1, z2, z1]
  | 3 => pv (d) 3 [(pN 20005)]
  | _ => fun _ => none
abbrev vkR112 (s d : Nat) : Nat → Nat
  | 0 => pk (s) [(oN 6), (oN 7)]
  | 1 => pk (s) [bF, bF]
  | 2 => pk (7 * d) [z0, z1, (iN 9), (oN 8), z1, z2, z1]
  | 3 => pk (d) [(pN 20005)]
  | _ => 0
theorem vpR112 (s d : Nat) : ∀ i m a, vvR112 s d i m = some a → vplain a = true
  | 0, _, _, h => pv_plainB rfl h
  | 1, _, _, h => pv_plainB rfl h
  | 2, _, _, h => pv_plainB rfl h
  | 3, _, _, h => pv_plainB rfl h
  | _ + 4, _, _, h => (by cases h)
abbrev PR112 (u : Int) (res : Int) (r : Int) (wd : Int) (c0 : Int) (c1 : Int) (s : Nat) (d : Nat) (rv : Nat → Value) : Tab := ((bare (ivR112 u res r wd c0 c1 s d) (vvR112 s d) (vkR112 s d) (vpR112 s d)).rtab rv)
noncomputable abbrev bsR112 : BS := [(7168, 7168, (.map [(tx17, (pN 14062), 0)] 1)), (7169, 7169, kb0), (7170, 7170, kb1), (9584, 9584, kb2), (10426, 10426, (.map [(tx17, z0, 0)] 1)), (10428, 10428, kb3), (10429, 10429, kb4), (13769, 13769, kb21), (13770, 13770, kb6), (13771, 13771, (.map [(tx17, z0, 0)] 1)), (13772, 13772, kb7), (13773, 13773, kb22), (14062, 14062, kb9), (14064, 14064, kb10), (14502, 14502, kb11), (14826, 14826, kb12), (14870, 14870, kb13), (15194, 15194, kb14), (15200, 15200, kb15), (16578, 16578, kb17), (16583, 16583, kb18), (20000, 20000, kb16), (20001, 20001, (.vec 0)), (20002, 20002, (.vec 1)), (20003, 20003, (.vec 2)), (20004, 20004, (.vec 3)), (20005, 20005, kb28)]
def SR112 (u : Int) (res : Int) (r : Int) (wd : Int) (c0 : Int) (c1 : Int) (s : Nat) (d : Nat) (rv : Nat → Value) (B : Kp) (w0 : World) (μ : M) (a : Act) (w : World) : Prop := St (PR112 u res r wd c0 c1 s d rv) B w0 μ Tryz.f47.ntmps (frOf fsR) (hOf 20010 bsR112) a w
abbrev ivR012 (u : Int) (res : Int) (r : Int) (wd : Int) (c0 : Int) (c1 : Int) (s : Nat) (d : Nat) : Nat → IntKind × Int
  | 0 => (.i64, ((s + 2 : Nat) : Int))
  | 1 => (.i64, ((d + 1 : Nat) : Int))
  | 2 => (.i64, wd)
  | 3 => (.i64, c0)
  | 4 => (.i64, c1)
  | 5 => (.i64, r)
  | 6 => (.i64, u)
  | 7 => (.i64, res)
  | 8 => (.i64, ((s : Nat) : Int))
  | _ => (.i64, 0)
abbrev vvR012 (s d : Nat) : Nat → Nat → Option AV
  | 0 => pv (s) 0 [(oN 6), (oN 7)]
  | 1 => pv (s) 1 [bF, bF]
  | 2 => pv (7 * d) 2 [z0, z0, (iN 9), (oN 8), z1, z2, z1]
  | 3 => pv (d) 3 [(pN 20005)]
  | _ => fun _ => none
abbrev vkR012 (s d : Nat) : Nat → Nat
  | 0 => pk (s) [(oN 6), (oN 7)]
  | 1 => pk (s) [bF, bF]
  | 2 => pk (7 * d) [z0, z0, (iN 9), (oN 8), z1, z2, z1]
  | 3 => pk (d) [(pN 20005)]
  | _ => 0
theorem vpR012 (s d : Nat) : ∀ i m a, vvR012 s d i m = some a → vplain a = true
  | 0, _, _, h => pv_plainB rfl h
  | 1, _, _, h => pv_plainB rfl h
  | 2, _, _, h => pv_plainB rfl h
  | 3, _, _, h => pv_plainB rfl h
  | _ + 4, _, _, h => (by cases h)
abbrev PR012 (u : Int) (res : Int) (r : Int) (wd : Int) (c0 : Int) (c1 : Int) (s : Nat) (d : Nat) (rv : Nat → Value) : Tab := ((bare (ivR012 u res r wd c0 c1 s d) (vvR012 s d) (vkR012 s d) (vpR012 s d)).rtab rv)
noncomputable abbrev bsR012 : BS := [(7168, 7168, (.map [(tx17, (pN 14062), 0)] 1)), (7169, 7169, kb0), (7170, 7170, kb1), (9584, 9584, kb2), (10426, 10426, (.map [(tx17, z0, 0)] 1)), (10428, 10428, kb3), (10429, 10429, kb4), (13769, 13769, kb21), (13770, 13770, kb6), (13771, 13771, (.map [(tx17, z0, 0)] 1)), (13772, 13772, kb7), (13773, 13773, kb22), (14062, 14062, kb9), (14064, 14064, kb10), (14502, 14502, kb11), (14826, 14826, kb12), (14870, 14870, kb13), (15194, 15194, kb14), (15200, 15200, kb15), (16578, 16578, kb17), (16583, 16583, kb18), (20000, 20000, kb16), (20001, 20001, (.vec 0)), (20002, 20002, (.vec 1)), (20003, 20003, (.vec 2)), (20004, 20004, (.vec 3)), (20005, 20005, kb29)]
def SR012 (u : Int) (res : Int) (r : Int) (wd : Int) (c0 : Int) (c1 : Int) (s : Nat) (d : Nat) (rv : Nat → Value) (B : Kp) (w0 : World) (μ : M) (a : Act) (w : World) : Prop := St (PR012 u res r wd c0 c1 s d rv) B w0 μ Tryz.f47.ntmps (frOf fsR) (hOf 20010 bsR012) a w
abbrev ivR15 (u : Int) (res : Int) (r : Int) (wd : Int) (c0 : Int) (c1 : Int) (s : Nat) (d : Nat) : Nat → IntKind × Int
  | 0 => (.i64, ((s + 2 : Nat) : Int))
  | 1 => (.i64, ((d + 1 : Nat) : Int))
  | 2 => (.i64, wd)
  | 3 => (.i64, c0)
  | 4 => (.i64, c1)
  | 5 => (.i64, r)
  | 6 => (.i64, u)
  | 7 => (.i64, res)
  | 8 => (.i64, ((s : Nat) : Int))
  | _ => (.i64, 0)
abbrev vvR15 (s d : Nat) : Nat → Nat → Option AV
  | 0 => pv (s) 0 [(oN 6), (oN 7)]
  | 1 => pv (s) 1 [bF, bF]
  | 2 => pv (7 * d) 2 [z0, z1, (iN 4), (oN 8), z1, z2, z1]
  | 3 => pv (d) 3 [(pN 20005)]
  | _ => fun _ => none
abbrev vkR15 (s d : Nat) : Nat → Nat
  | 0 => pk (s) [(oN 6), (oN 7)]
  | 1 => pk (s) [bF, bF]
  | 2 => pk (7 * d) [z0, z1, (iN 4), (oN 8), z1, z2, z1]
  | 3 => pk (d) [(pN 20005)]
  | _ => 0
theorem vpR15 (s d : Nat) : ∀ i m a, vvR15 s d i m = some a → vplain a = true
  | 0, _, _, h => pv_plainB rfl h
  | 1, _, _, h => pv_plainB rfl h
  | 2, _, _, h => pv_plainB rfl h
  | 3, _, _, h => pv_plainB rfl h
  | _ + 4, _, _, h => (by cases h)
abbrev PR15 (u : Int) (res : Int) (r : Int) (wd : Int) (c0 : Int) (c1 : Int) (s : Nat) (d : Nat) (rv : Nat → Value) : Tab := ((bare (ivR15 u res r wd c0 c1 s d) (vvR15 s d) (vkR15 s d) (vpR15 s d)).rtab rv)
noncomputable abbrev bsR15 : BS := [(7168, 7168, (.map [(tx17, (pN 14062), 0)] 1)), (7169, 7169, kb0), (7170, 7170, kb1), (9584, 9584, kb2), (10426, 10426, (.map [(tx17, z0, 0)] 1)), (10428, 10428, kb3), (10429, 10429, kb4), (13769, 13769, kb21), (13770, 13770, kb6), (13771, 13771, (.map [(tx17, z0, 0)] 1)), (13772, 13772, kb7), (13773, 13773, kb22), (14062, 14062, kb9), (14064, 14064, kb10), (14502, 14502, kb11), (14826, 14826, kb12), (14870, 14870, kb13), (15194, 15194, kb14), (15200, 15200, kb15), (16578, 16578, kb17), (16583, 16583, kb18), (20000, 20000, kb16), (20001, 20001, (.vec 0)), (20002, 20002, (.vec 1)), (20003, 20003, (.vec 2)), (20004, 20004, (.vec 3)), (20005, 20005, kb30)]
def SR15 (u : Int) (res : Int) (r : Int) (wd : Int) (c0 : Int) (c1 : Int) (s : Nat) (d : Nat) (rv : Nat → Value) (B : Kp) (w0 : World) (μ : M) (a : Act) (w : World) : Prop := St (PR15 u res r wd c0 c1 s d rv) B w0 μ Tryz.f47.ntmps (frOf fsR) (hOf 20010 bsR15) a w
abbrev ivR05 (u : Int) (res : Int) (r : Int) (wd : Int) (c0 : Int) (c1 : Int) (s : Nat) (d : Nat) : Nat → IntKind × Int
  | 0 => (.i64, ((s + 2 : Nat) : Int))
  | 1 => (.i64, ((d + 1 : Nat) : Int))
  | 2 => (.i64, wd)
  | 3 => (.i64, c0)
  | 4 => (.i64, c1)
  | 5 => (.i64, r)
  | 6 => (.i64, u)
  | 7 => (.i64, res)
  | 8 => (.i64, ((s : Nat) : Int))
  | _ => (.i64, 0)
abbrev vvR05 (s d : Nat) : Nat → Nat → Option AV
  | 0 => pv (s) 0 [(oN 6), (oN 7)]
  | 1 => pv (s) 1 [bF, bF]
  | 2 => pv (7 * d) 2 [z0, z0, (iN 4), (oN 8), z1, z2, z1]
  | 3 => pv (d) 3 [(pN 20005)]
  | _ => fun _ => none
abbrev vkR05 (s d : Nat) : Nat → Nat
  | 0 => pk (s) [(oN 6), (oN 7)]
  | 1 => pk (s) [bF, bF]
  | 2 => pk (7 * d) [z0, z0, (iN 4), (oN 8), z1, z2, z1]
  | 3 => pk (d) [(pN 20005)]
  | _ => 0
theorem vpR05 (s d : Nat) : ∀ i m a, vvR05 s d i m = some a → vplain a = true
  | 0, _, _, h => pv_plainB rfl h
  | 1, _, _, h => pv_plainB rfl h
  | 2, _, _, h => pv_plainB rfl h
  | 3, _, _, h => pv_plainB rfl h
  | _ + 4, _, _, h => (by cases h)
abbrev PR05 (u : Int) (res : Int) (r : Int) (wd : Int) (c0 : Int) (c1 : Int) (s : Nat) (d : Nat) (rv : Nat → Value) : Tab := ((bare (ivR05 u res r wd c0 c1 s d) (vvR05 s d) (vkR05 s d) (vpR05 s d)).rtab rv)
noncomputable abbrev bsR05 : BS := [(7168, 7168, (.map [(tx17, (pN 14062), 0)] 1)), (7169, 7169, kb0), (7170, 7170, kb1), (9584, 9584, kb2), (10426, 10426, (.map [(tx17, z0, 0)] 1)), (10428, 10428, kb3), (10429, 10429, kb4), (13769, 13769, kb21), (13770, 13770, kb6), (13771, 13771, (.map [(tx17, z0, 0)] 1)), (13772, 13772, kb7), (13773, 13773, kb22), (14062, 14062, kb9), (14064, 14064, kb10), (14502, 14502, kb11), (14826, 14826, kb12), (14870, 14870, kb13), (15194, 15194, kb14), (15200, 15200, kb15), (16578, 16578, kb17), (16583, 16583, kb18), (20000, 20000, kb16), (20001, 20001, (.vec 0)), (20002, 20002, (.vec 1)), (20003, 20003, (.vec 2)), (20004, 20004, (.vec 3)), (20005, 20005, kb31)]
def SR05 (u : Int) (res : Int) (r : Int) (wd : Int) (c0 : Int) (c1 : Int) (s : Nat) (d : Nat) (rv : Nat → Value) (B : Kp) (w0 : World) (μ : M) (a : Act) (w : World) : Prop := St (PR05 u res r wd c0 c1 s d rv) B w0 μ Tryz.f47.ntmps (frOf fsR) (hOf 20010 bsR05) a w
end Go.Proofs.YtfkfmjlppllfoaaGreatDoor.mu
