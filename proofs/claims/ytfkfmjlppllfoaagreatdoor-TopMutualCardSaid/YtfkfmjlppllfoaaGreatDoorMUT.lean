/-
  Beginning and end of the machine within the law TopMutual.
-/
import Derived.Test.YtfkfmjlppllfoaaGreatDoorMNN
import Derived.Test.YtfkfmjlppllfoaaGreatDoorXN3
import Derived.Test.YtfkfmjlppllfoaaGreatDoorMUR
import Derived.Test.YtfkfmjlppllfoaaGreatDoorProg
import Derived.KernelRfl
set_option linter.unusedSectionVars false
set_option linter.unusedVariables false
set_option maxRecDepth 1000000
set_option maxHeartbeats 0
namespace Go.Proofs.YtfkfmjlppllfoaaGreatDoor.mu
open Go.X Go.RowKit
abbrev ivB (v : Int) (r : Int) (wd : Int) (c0 : Int) (c1 : Int) (s : Nat) (d : Nat) : Nat → IntKind × Int
  | 0 => (.i64, v)
  | 1 => (.i64, ((0 : Nat) : Int))
  | 2 => (.i64, ((0 + 1 : Nat) : Int))
  | 3 => (.i64, ((0 + 2 : Nat) : Int))
  | 4 => (.i64, ((0 + 3 : Nat) : Int))
  | 5 => (.i32, v)
  | 6 => (.i64, v - 1)
  | 7 => (.i32, v - 1)
  | 8 => (.i64, ((0 + 4 : Nat) : Int))
  | 9 => (.i64, v - 2)
  | 10 => (.i32, v - 2)
  | _ => (.i64, 0)
abbrev vvB (s d : Nat) : Nat → Nat → Option AV
  | 0 => pv (0) 0 [(oN 0)]
  | 1 => pv (0) 1 [bF]
  | 2 => pv (0) 2 [z0, z0, z0, z0, z1, z2, z0]
  | 3 => pv (0) 3 [(pN 20005)]
  | 4 => pv (0) 2 [z0, z0, z0, z0, z1, z2, z1]
  | 5 => pv (0) 0 [(oN 0), (oN 0)]
  | 6 => pv (0) 1 [bF, bF]
  | 7 => pv (0) 2 [z0, z0, z1, z0, z1, z2, z1]
  | 8 => pv (0) 2 [z0, z0, z1, z0, z1, z2, z0]
  | 9 => pv (0) 2 [z0, z0, (iN 6), z0, z1, z2, z0]
  | 10 => pv (0) 2 [z0, z0, (iN 6), z0, z1, z2, z1]
  | 11 => pv (0) 2 [z0, z0, (iN 7), z0, z1, z2, z1]
  | 12 => pv (0) 2 [z0, z0, (iN 7), z0, z1, z2, z2]
  | 13 => pv (0) 0 [(oN 0), (oN 0), z1]
  | 14 => pv (0) 1 [bF, bF, bF]
  | 15 => pv (0) 2 [z0, z0, (iN 8), z0, z1, z2, z2]
  | 16 => pv (0) 2 [z0, z0, (iN 8), z0, z1, z2, z0]
  | 17 => pv (0) 2 [z0, z0, (iN 8), z0, z1, z2, z1]
  | 18 => pv (0) 0 [(oN 0), (oN 6)]
  | 19 => pv (0) 2 [z0, z0, (iN 9), z0, z1, z2, z1]
  | 20 => pv (0) 2 [z0, z0, (iN 9), z0, z1, z2, z0]
  | 21 => pv (0) 2 [z0, z0, (iN 9), z0, z1, z2, z0, z0, z1, z0, (oN 2), z1, z2, z0]
  | 22 => pv (0) 0 [(oN 0), z0]
  | 23 => pv (0) 3 [(pN 20005), (pN 20279)]
  | 24 => pv (0) 2 [z0, z0, (iN 9), z0, z1, z2, z0, z0, z1, z0, (oN 2), z1, z2, z1]
  | 25 => pv (0) 0 [(oN 0), (oN 6), (oN 6)]
  | 26 => pv (0) 2 [z0, z0, (iN 9), z0, z1, z2, z0, z0, z1, z1, (oN 2), z1, z2, z1]
  | 27 => pv (0) 2 [z0, z0, (iN 9), z0, z1, z2, z0, z0, z1, z1, (oN 2), z1, z2, z0]
  | 28 => pv (0) 2 [z0, z0, (iN 9), z0, z1, z2, z0, z0, z1, (iN 6), (oN 2), z1, z2, z0]
  | 29 => pv (0) 2 [z0, z0, (iN 9), z0, z1, z2, z0, z0, z1, (iN 6), (oN 2), z1, z2, z1]
  | 30 => pv (0) 2 [z0, z0, (iN 9), z0, z1, z2, z0, z0, z1, (iN 7), (oN 2), z1, z2, z1]
  | 31 => pv (0) 2 [z0, z0, (iN 9), z0, z1, z2, z0, z0, z1, (iN 7), (oN 2), z1, z2, z2]
  | 32 => pv (0) 0 [(oN 0), (oN 6), (oN 6), z1]
  | 33 => pv (0) 1 [bF, bF, bF, bF]
  | 34 => pv (0) 2 [z0, z0, (iN 9), z0, z1, z2, z0, z0, z1, (iN 8), (oN 2), z1, z2, z2]
  | 35 => pv (0) 2 [z0, z0, (iN 9), z0, z1, z2, z0, z0, z1, (iN 8), (oN 2), z1, z2, z0]
  | 36 => pv (0) 2 [z0, z0, (iN 9), z0, z1, z2, z0, z0, z1, (iN 8), (oN 2), z1, z2, z1]
  | 37 => pv (0) 0 [(oN 0), (oN 6), (oN 9)]
  | 38 => pv (0) 2 [z0, z0, (iN 9), z0, z1, z2, z0, z0, z1, (iN 9), (oN 2), z1, z2, z1]
  | 39 => pv (0) 2 [z0, z0, (iN 9), z0, z1, z2, z0, z0, z1, (iN 9), (oN 2), z1, z2, z0]
  | 40 => pv (0) 2 [z0, z0, (iN 9), z0, z1, z2, z0, z0, z1, (iN 9), (oN 2), z1, z2, z0, z0, z0, z0, (oN 3), z1, z2, z0]
  | 41 => pv (0) 0 [(oN 0), (oN 6), z0]
  | 42 => pv (0) 3 [(pN 20005), (pN 20279), (pN 20551)]
  | _ => fun _ => none
abbrev vkB (s d : Nat) : Nat → Nat
  | 0 => pk (0) [(oN 0)]
  | 1 => pk (0) [bF]
  | 2 => pk (0) [z0, z0, z0, z0, z1, z2, z0]
  | 3 => pk (0) [(pN 20005)]
  | 4 => pk (0) [z0, z0, z0, z0, z1, z2, z1]
  | 5 => pk (0) [(oN 0), (oN 0)]
  | 6 => pk (0) [bF, bF]
  | 7 => pk (0) [z0, z0, z1, z0, z1, z2, z1]
  | 8 => pk (0) [z0, z0, z1, z0, z1, z2, z0]
  | 9 => pk (0) [z0, z0, (iN 6), z0, z1, z2, z0]
  | 10 => pk (0) [z0, z0, (iN 6), z0, z1, z2, z1]
  | 11 => pk (0) [z0, z0, (iN 7), z0, z1, z2, z1]
  | 12 => pk (0) [z0, z0, (iN 7), z0, z1, z2, z2]
  | 13 => pk (0) [(oN 0), (oN 0), z1]
  | 14 => pk (0) [bF, bF, bF]
  | 15 => pk (0) [z0, z0, (iN 8), z0, z1, z2, z2]
  | 16 => pk (0) [z0, z0, (iN 8), z0, z1, z2, z0]
  | 17 => pk (0) [z0, z0, (iN 8), z0, z1, z2, z1]
  | 18 => pk (0) [(oN 0), (oN 6)]
  | 19 => pk (0) [z0, z0, (iN 9), z0, z1, z2, z1]
  | 20 => pk (0) [z0, z0, (iN 9), z0, z1, z2, z0]
  | 21 => pk (0) [z0, z0, (iN 9), z0, z1, z2, z0, z0, z1, z0, (oN 2), z1, z2, z0]
  | 22 => pk (0) [(oN 0), z0]
  | 23 => pk (0) [(pN 20005), (pN 20279)]
  | 24 => pk (0) [z0, z0, (iN 9), z0, z1, z2, z0, z0, z1, z0, (oN 2), z1, z2, z1]
  | 25 => pk (0) [(oN 0), (oN 6), (oN 6)]
  | 26 => pk (0) [z0, z0, (iN 9), z0, z1, z2, z0, z0, z1, z1, (oN 2), z1, z2, z1]
  | 27 => pk (0) [z0, z0, (iN 9), z0, z1, z2, z0, z0, z1, z1, (oN 2), z1, z2, z0]
  | 28 => pk (0) [z0, z0, (iN 9), z0, z1, z2, z0, z0, z1, (iN 6), (oN 2), z1, z2, z0]
  | 29 => pk (0) [z0, z0, (iN 9), z0, z1, z2, z0, z0, z1, (iN 6), (oN 2), z1, z2, z1]
  | 30 => pk (0) [z0, z0, (iN 9), z0, z1, z2, z0, z0, z1, (iN 7), (oN 2), z1, z2, z1]
  | 31 => pk (0) [z0, z0, (iN 9), z0, z1, z2, z0, z0, z1, (iN 7), (oN 2), z1, z2, z2]
  | 32 => pk (0) [(oN 0), (oN 6), (oN 6), z1]
  | 33 => pk (0) [bF, bF, bF, bF]
  | 34 => pk (0) [z0, z0, (iN 9), z0, z1, z2, z0, z0, z1, (iN 8), (oN 2), z1, z2, z2]
  | 35 => pk (0) [z0, z0, (iN 9), z0, z1, z2, z0, z0, z1, (iN 8), (oN 2), z1, z2, z0]
  | 36 => pk (0) [z0, z0, (iN 9), z0, z1, z2, z0, z0, z1, (iN 8), (oN 2), z1, z2, z1]
  | 37 => pk (0) [(oN 0), (oN 6), (oN 9)]
  | 38 => pk (0) [z0, z0, (iN 9), z0, z1, z2, z0, z0, z1, (iN 9), (oN 2), z1, z2, z1]
  | 39 => pk (0) [z0, z0, (iN 9), z0, z1, z2, z0, z0, z1, (iN 9), (oN 2), z1, z2, z0]
  | 40 => pk (0) [z0, z0, (iN 9), z0, z1, z2, z0, z0, z1, (iN 9), (oN 2), z1, z2, z0, z0, z0, z0, (oN 3), z1, z2, z0]
  | 41 => pk (0) [(oN 0), (oN 6), z0]
  | 42 => pk (0) [(pN 20005), (pN 20279), (pN 20551)]
  | _ => 0
theorem vpB (s d : Nat) : ∀ i m a, vvB s d i m = some a → vplain a = true
  | 0, _, _, h => pv_plainB rfl h
  | 1, _, _, h => pv_plainB rfl h
  | 2, _, _, h => pv_plainB rfl h
  | 3, _, _, h => pv_plainB rfl h
  | 4, _, _, h => pv_plainB rfl h
  | 5, _, _, h => pv_plainB rfl h
  | 6, _, _, h => pv_plainB rfl h
  | 7, _, _, h => pv_plainB rfl h
  | 8, _, _, h => pv_plainB rfl h
  | 9, _, _, h => pv_plainB rfl h
  | 10, _, _, h => pv_plainB rfl h
  | 11, _, _, h => pv_plainB rfl h
  | 12, _, _, h => pv_plainB rfl h
  | 13, _, _, h => pv_plainB rfl h
  | 14, _, _, h => pv_plainB rfl h
  | 15, _, _, h => pv_plainB rfl h
  | 16, _, _, h => pv_plainB rfl h
  | 17, _, _, h => pv_plainB rfl h
  | 18, _, _, h => pv_plainB rfl h
  | 19, _, _, h => pv_plainB rfl h
  | 20, _, _, h => pv_plainB rfl h
  | 21, _, _, h => pv_plainB rfl h
  | 22, _, _, h => pv_plainB rfl h
  | 23, _, _, h => pv_plainB rfl h
  | 24, _, _, h => pv_plainB rfl h
  | 25, _, _, h => pv_plainB rfl h
  | 26, _, _, h => pv_plainB rfl h
  | 27, _, _, h => pv_plainB rfl h
  | 28, _, _, h => pv_plainB rfl h
  | 29, _, _, h => pv_plainB rfl h
  | 30, _, _, h => pv_plainB rfl h
  | 31, _, _, h => pv_plainB rfl h
  | 32, _, _, h => pv_plainB rfl h
  | 33, _, _, h => pv_plainB rfl h
  | 34, _, _, h => pv_plainB rfl h
  | 35, _, _, h => pv_plainB rfl h
  | 36, _, _, h => pv_plainB rfl h
  | 37, _, _, h => pv_plainB rfl h
  | 38, _, _, h => pv_plainB rfl h
  | 39, _, _, h => pv_plainB rfl h
  | 40, _, _, h => pv_plainB rfl h
  | 41, _, _, h => pv_plainB rfl h
  | 42, _, _, h => pv_plainB rfl h
  | _ + 43, _, _, h => (by cases h)
abbrev PB (v : Int) (r : Int) (wd : Int) (c0 : Int) (c1 : Int) (s : Nat) (d : Nat) (rv : Nat → Value) : Tab := ((bare (ivB v r wd c0 c1 s d) (vvB s d) (vkB s d) (vpB s d)).rtab rv)
noncomputable abbrev bsB : BS := [(7168, 7168, (.map [(tx17, (pN 14062), 0)] 1)), (7169, 7169, kb0), (7170, 7170, kb1), (9584, 9584, kb2), (10426, 10426, (.map [(tx17, z0, 0)] 1)), (10428, 10428, kb3), (10429, 10429, kb4), (13769, 13769, (.cells 4 false [] (T.ofList 0 .leaf [(.ov 20001 2 1), (.ov 20002 2 1), (.ov 20003 2 7), (iN 7)]))), (13770, 13770, kb6), (13771, 13771, (.map [(tx17, z0, 0)] 1)), (13772, 13772, (.map [] 0)), (13773, 13773, (.cells 32 false [] (T.ofList 0 .leaf [(pN 7170), (pN 10428), (pN 10423), (pN 10425), (pN 10429), (pN 13769), (.ov 20004 2 1), (.map 13770), (.map 13771), .nils, z1, (iN 3), (iN 6), z0, .nilp, bT, (iN 5000), z0, z0, z0, z0, z0, (uN 0), z0, tx6, tx6, bF, z0, .nils, z0, z0, (.map 13772)]))), (14062, 14062, kb9), (14064, 14064, kb10), (14502, 14502, kb11), (14826, 14826, kb12), (14870, 14870, kb13), (15194, 15194, kb14), (15200, 15200, kb15), (16578, 16578, kb17), (16583, 16583, kb18), (20000, 20000, kb16), (20001, 20001, (.vec 0)), (20002, 20002, (.vec 1)), (20003, 20003, (.vec 2)), (20004, 20004, (.vec 3)), (20005, 20005, kb19)]
def SB (v : Int) (r : Int) (wd : Int) (c0 : Int) (c1 : Int) (s : Nat) (d : Nat) (rv : Nat → Value) (B : Kp) (w0 : World) (μ : M) (a : Act) (w : World) : Prop := St (PB v r wd c0 c1 s d rv) B w0 μ Tryz.f47.ntmps (frOf fsR) (hOf 20010 bsB) a w
abbrev ivE3 (v : Int) (r : Int) (wd : Int) (c0 : Int) (c1 : Int) (s : Nat) (d : Nat) : Nat → IntKind × Int
  | 0 => (.i64, ((0 + 3 : Nat) : Int))
  | 1 => (.i64, v)
  | 2 => (.i64, v - 1)
  | 3 => (.i64, v - 2)
  | 4 => (.i64, ((0 + 1 : Nat) : Int))
  | 5 => (.i64, ((0 + 2 : Nat) : Int))
  | _ => (.i64, 0)
abbrev vvE3 (s d : Nat) : Nat → Nat → Option AV
  | 0 => pv (0) 0 [(oN 1), (oN 2), (oN 3)]
  | 1 => pv (0) 1 [bF, bF, bF]
  | 2 => pv (0) 2 [z0, z0, (iN 9), z0, z1, z2, z0, z0, z1, (iN 9), (oN 4), z1, z2, z0, z0, z0, z0, (oN 5), z1, z2, z0]
  | 3 => pv (0) 3 [(pN 20007), (pN 20006), (pN 20005)]
  | _ => fun _ => none
abbrev vkE3 (s d : Nat) : Nat → Nat
  | 0 => pk (0) [(oN 1), (oN 2), (oN 3)]
  | 1 => pk (0) [bF, bF, bF]
  | 2 => pk (0) [z0, z0, (iN 9), z0, z1, z2, z0, z0, z1, (iN 9), (oN 4), z1, z2, z0, z0, z0, z0, (oN 5), z1, z2, z0]
  | 3 => pk (0) [(pN 20007), (pN 20006), (pN 20005)]
  | _ => 0
theorem vpE3 (s d : Nat) : ∀ i m a, vvE3 s d i m = some a → vplain a = true
  | 0, _, _, h => pv_plainB rfl h
  | 1, _, _, h => pv_plainB rfl h
  | 2, _, _, h => pv_plainB rfl h
  | 3, _, _, h => pv_plainB rfl h
  | _ + 4, _, _, h => (by cases h)
abbrev PE3 (v : Int) (r : Int) (wd : Int) (c0 : Int) (c1 : Int) (s : Nat) (d : Nat) (rv : Nat → Value) : Tab := ((bare (ivE3 v r wd c0 c1 s d) (vvE3 s d) (vkE3 s d) (vpE3 s d)).rtab rv)
noncomputable abbrev bsE3 : BS := [(7168, 7168, (.map [(tx17, (pN 14062), 0)] 1)), (7169, 7169, kb0), (7170, 7170, kb1), (9584, 9584, kb2), (10426, 10426, (.map [(tx17, z0, 0)] 1)), (10428, 10428, kb3), (10429, 10429, kb4), (13769, 13769, (.cells 4 false [] (T.ofList 0 .leaf [(.ov 20001 0 1), (.ov 20002 0 1), (.ov 20003 0 7), (iN 21)]))), (13770, 13770, kb6), (13771, 13771, (.map [(tx17, z0, 0)] 1)), (13772, 13772, (.map [(tx32, (iN 6), 0), (tx38, (iN 6), 1)] 2)), (13773, 13773, (.cells 32 false [] (T.ofList 0 .leaf [(pN 7170), (pN 10428), (pN 10423), (pN 10425), (pN 10429), (pN 13769), (.ov 20004 0 1), (.map 13770), (.map 13771), .nils, z1, (iN 3), (iN 6), z0, .nilp, bT, (iN 5000), (iN 12), z0, z1, z0, z0, (uN 0), z0, tx6, tx6, bF, z0, .nils, z0, z0, (.map 13772)]))), (14062, 14062, kb9), (14064, 14064, kb10), (14502, 14502, kb11), (14826, 14826, kb12), (14870, 14870, kb13), (15194, 15194, kb14), (15200, 15200, kb15), (16578, 16578, kb17), (16583, 16583, kb18), (20000, 20000, kb16), (20001, 20001, (.vec 0)), (20002, 20002, (.vec 1)), (20003, 20003, (.vec 2)), (20004, 20004, (.vec 3)), (20005, 20005, kb19), (20006, 20006, kb24), (20007, 20007, kb23)]
def SE3 (v : Int) (r : Int) (wd : Int) (c0 : Int) (c1 : Int) (s : Nat) (d : Nat) (rv : Nat → Value) (B : Kp) (w0 : World) (μ : M) (a : Act) (w : World) : Prop := St (PE3 v r wd c0 c1 s d rv) B w0 μ Tryz.f47.ntmps (frOf fsR) (hOf 20010 bsE3) a w
abbrev ivD (u : Int) (res : Int) (r : Int) (wd : Int) (c0 : Int) (c1 : Int) (s : Nat) (d : Nat) : Nat → IntKind × Int
  | 0 => (.i64, u)
  | 1 => (.i64, res)
  | 2 => (.i64, r)
  | 3 => (.i64, wd)
  | 4 => (.i64, c0)
  | 5 => (.i64, c1)
  | 6 => (.i64, ((0 : Nat) : Int))
  | 7 => (.i64, ((0 + 2 : Nat) : Int))
  | 8 => (.i64, ((0 + 1 : Nat) : Int))
  | 9 => (.i64, r + 1)
  | 10 => (.i64, c0 + 1)
  | 11 => (.i64, wd - 7)
  | _ => (.i64, 0)
abbrev vvD (s d : Nat) : Nat → Nat → Option AV
  | 0 => pv (0) 0 [(oN 0), (oN 1)]
  | 1 => pv (0) 1 [bF, bF]
  | 2 => pv (0) 2 [z0, z0, (iN 9), (oN 6), z1, z2, z1]
  | 3 => pv (0) 3 [(pN 20005)]
  | 4 => pv (0) 2 [z0, z0, (iN 12), (oN 6), z1, z2, z1]
  | 5 => pv (0) 2 [z0, z0, (iN 12), (oN 6), z1, z2, z0]
  | _ => fun _ => none
abbrev vkD (s d : Nat) : Nat → Nat
  | 0 => pk (0) [(oN 0), (oN 1)]
  | 1 => pk (0) [bF, bF]
  | 2 => pk (0) [z0, z0, (iN 9), (oN 6), z1, z2, z1]
  | 3 => pk (0) [(pN 20005)]
  | 4 => pk (0) [z0, z0, (iN 12), (oN 6), z1, z2, z1]
  | 5 => pk (0) [z0, z0, (iN 12), (oN 6), z1, z2, z0]
  | _ => 0
theorem vpD (s d : Nat) : ∀ i m a, vvD s d i m = some a → vplain a = true
  | 0, _, _, h => pv_plainB rfl h
  | 1, _, _, h => pv_plainB rfl h
  | 2, _, _, h => pv_plainB rfl h
  | 3, _, _, h => pv_plainB rfl h
  | 4, _, _, h => pv_plainB rfl h
  | 5, _, _, h => pv_plainB rfl h
  | _ + 6, _, _, h => (by cases h)
abbrev PD (u : Int) (res : Int) (r : Int) (wd : Int) (c0 : Int) (c1 : Int) (s : Nat) (d : Nat) (rv : Nat → Value) : Tab := ((bare (ivD u res r wd c0 c1 s d) (vvD s d) (vkD s d) (vpD s d)).rtab rv)
noncomputable abbrev bsD : BS := [(7168, 7168, (.map [(tx17, (pN 14062), 0)] 1)), (7169, 7169, kb0), (7170, 7170, kb1), (9584, 9584, kb2), (10426, 10426, (.map [(tx17, z0, 0)] 1)), (10428, 10428, kb3), (10429, 10429, kb4), (13769, 13769, (.cells 4 false [] (T.ofList 0 .leaf [(.ov 20001 7 1), (.ov 20002 7 1), (.ov 20003 8 7), (oN 3)]))), (13770, 13770, kb6), (13771, 13771, (.map [(tx17, z0, 0)] 1)), (13772, 13772, (.map [(tx32, (oN 4), 0), (tx38, (oN 5), 1)] 2)), (13773, 13773, (.cells 32 false [] (T.ofList 0 .leaf [(pN 7170), (pN 10428), (pN 10423), (pN 10425), (pN 10429), (pN 13769), (.ov 20004 8 1), (.map 13770), (.map 13771), .nils, z1, (iN 3), (iN 6), z0, .nilp, bT, (iN 5000), (oN 2), z0, z1, z0, z0, (uN 0), z0, tx6, tx6, bF, z0, .nils, z0, z0, (.map 13772)]))), (14062, 14062, kb9), (14064, 14064, kb10), (14502, 14502, kb11), (14826, 14826, kb12), (14870, 14870, kb13), (15194, 15194, kb14), (15200, 15200, kb15), (16578, 16578, kb17), (16583, 16583, kb18), (20000, 20000, kb16), (20001, 20001, (.vec 0)), (20002, 20002, (.vec 1)), (20003, 20003, (.vec 2)), (20004, 20004, (.vec 3)), (20005, 20005, kb29)]
def SD (u : Int) (res : Int) (r : Int) (wd : Int) (c0 : Int) (c1 : Int) (s : Nat) (d : Nat) (rv : Nat → Value) (B : Kp) (w0 : World) (μ : M) (a : Act) (w : World) : Prop := St (PD u res r wd c0 c1 s d rv) B w0 μ Tryz.f47.ntmps (frOf fsR) (hOf 20010 bsD) a w
section
variable {B : Kp} {w0 w w1 : World} {μ μ0 : M} {a : Act}
theorem ibS {v : Int} {r : Int} {wd : Int} {c0 : Int} {c1 : Int} {s : Nat} {d : Nat} (h1 : 2 ≤ v) (h2 : v ≤ 200) (h7 : 0 ≤ c0) (h8 : c0 ≤ 100000) (h9 : 0 ≤ c1) (h10 : c1 ≤ 100000) : ∀ x_ ∈ ([(9, .oi 2, .int .i64 0, .bool false), (1, .oi 2, .int .i64 1, .oi 1), (11, .oi 1, .oi 2, .bool true), (14, .oi 1, .int .i64 0, .bool true), (1, .oi 3, .int .i64 1, .oi 2), (1, .oi 2, .int .i64 0, .oi 2), (11, .oi 2, .oi 3, .bool true), (14, .oi 2, .int .i64 0, .bool true), (12, .oi 2, .oi 3, .bool true), (10, .oi 0, .int .i64 0, .bool true), (1, .oi 4, .int .i64 1, .oi 3), (1, .oi 3, .int .i64 0, .oi 3), (11, .oi 3, .oi 4, .bool true), (14, .oi 3, .int .i64 0, .bool true), (11, .oi 2, .oi 4, .bool true), (1, .oi 0, .int .i64 1, .oi 6), (1, .oi 4, .int .i64 2, .oi 2), (12, .oi 2, .oi 4, .bool true), (9, .oi 3, .int .i64 0, .bool false), (0, .oi 2, .int .i64 0, .oi 2), (11, .oi 2, .int .i64 0, .bool false), (12, .oi 3, .oi 4, .bool true), (10, .oi 6, .int .i64 0, .bool true), (1, .oi 8, .int .i64 1, .oi 4), (1, .oi 4, .int .i64 0, .oi 4), (11, .oi 4, .oi 8, .bool true), (14, .oi 4, .int .i64 0, .bool true), (11, .oi 3, .oi 8, .bool true), (1, .oi 6, .int .i64 1, .oi 9), (1, .oi 8, .int .i64 2, .oi 3), (12, .oi 3, .oi 8, .bool true), (9, .oi 4, .int .i64 0, .bool false), (0, .oi 3, .int .i64 0, .oi 3)] : List BRow), IbOk (ivB v r wd c0 c1 s d) x_ := by
  letI := Tab.empty
  exact (ibCons (ibEq (a := (((0 + 1 : Nat) : Int))) (b := (0)) rfl rfl (decide_eq_false (by omega)))
    (ibCons (ibSub (a := (((0 + 1 : Nat) : Int))) (b := (1)) (c := (((0 : Nat) : Int))) rfl rfl rfl (by first | assumption | omega) (by omega) (by omega))
    (ibCons (ibLt (a := (((0 : Nat) : Int))) (b := (((0 + 1 : Nat) : Int))) rfl rfl (decide_eq_true (by omega)))
    (ibCons (ibGe (a := (((0 : Nat) : Int))) (b := (0)) rfl rfl (decide_eq_true (by omega)))
    (ibCons (ibSub (a := (((0 + 2 : Nat) : Int))) (b := (1)) (c := (((0 + 1 : Nat) : Int))) rfl rfl rfl (by first | assumption | omega) (by omega) (by omega))
    (ibCons (ibSub (a := (((0 + 1 : Nat) : Int))) (b := (0)) (c := (((0 + 1 : Nat) : Int))) rfl rfl rfl (by first | assumption | omega) (by omega) (by omega))
    (ibCons (ibLt (a := (((0 + 1 : Nat) : Int))) (b := (((0 + 2 : Nat) : Int))) rfl rfl (decide_eq_true (by omega)))
    (ibCons (ibGe (a := (((0 + 1 : Nat) : Int))) (b := (0)) rfl rfl (decide_eq_true (by omega)))
    (ibCons (ibLe (a := (((0 + 1 : Nat) : Int))) (b := (((0 + 2 : Nat) : Int))) rfl rfl (decide_eq_true (by omega)))
    (ibCons (ibNe (a := (v)) (b := (0)) rfl rfl (decide_eq_false (by omega)))
    (ibCons (ibSub (a := (((0 + 3 : Nat) : Int))) (b := (1)) (c := (((0 + 2 : Nat) : Int))) rfl rfl rfl (by first | assumption | omega) (by omega) (by omega))
    (ibCons (ibSub (a := (((0 + 2 : Nat) : Int))) (b := (0)) (c := (((0 + 2 : Nat) : Int))) rfl rfl rfl (by first | assumption | omega) (by omega) (by omega))
    (ibCons (ibLt (a := (((0 + 2 : Nat) : Int))) (b := (((0 + 3 : Nat) : Int))) rfl rfl (decide_eq_true (by omega)))
    (ibCons (ibGe (a := (((0 + 2 : Nat) : Int))) (b := (0)) rfl rfl (decide_eq_true (by omega)))
    (ibCons (ibLt (a := (((0 + 1 : Nat) : Int))) (b := (((0 + 3 : Nat) : Int))) rfl rfl (decide_eq_true (by omega)))
    (ibCons (ibSub (a := (v)) (b := (1)) (c := (v - 1)) rfl rfl rfl (by first | assumption | omega) (by omega) (by omega))
    (ibCons (ibSub (a := (((0 + 3 : Nat) : Int))) (b := (2)) (c := (((0 + 1 : Nat) : Int))) rfl rfl rfl (by first | assumption | omega) (by omega) (by omega))
    (ibCons (ibLe (a := (((0 + 1 : Nat) : Int))) (b := (((0 + 3 : Nat) : Int))) rfl rfl (decide_eq_true (by omega)))
    (ibCons (ibEq (a := (((0 + 2 : Nat) : Int))) (b := (0)) rfl rfl (decide_eq_false (by omega)))
    (ibCons (ibAdd (a := (((0 + 1 : Nat) : Int))) (b := (0)) (c := (((0 + 1 : Nat) : Int))) rfl rfl rfl (by first | assumption | omega) (by omega) (by omega))
    (ibCons (ibLt (a := (((0 + 1 : Nat) : Int))) (b := (0)) rfl rfl (decide_eq_false (by omega)))
    (ibCons (ibLe (a := (((0 + 2 : Nat) : Int))) (b := (((0 + 3 : Nat) : Int))) rfl rfl (decide_eq_true (by omega)))
    (ibCons (ibNe (a := (v - 1)) (b := (0)) rfl rfl (decide_eq_false (by omega)))
    (ibCons (ibSub (a := (((0 + 4 : Nat) : Int))) (b := (1)) (c := (((0 + 3 : Nat) : Int))) rfl rfl rfl (by first | assumption | omega) (by omega) (by omega))
    (ibCons (ibSub (a := (((0 + 3 : Nat) : Int))) (b := (0)) (c := (((0 + 3 : Nat) : Int))) rfl rfl rfl (by first | assumption | omega) (by omega) (by omega))
    (ibCons (ibLt (a := (((0 + 3 : Nat) : Int))) (b := (((0 + 4 : Nat) : Int))) rfl rfl (decide_eq_true (by omega)))
    (ibCons (ibGe (a := (((0 + 3 : Nat) : Int))) (b := (0)) rfl rfl (decide_eq_true (by omega)))
    (ibCons (ibLt (a := (((0 + 2 : Nat) : Int))) (b := (((0 + 4 : Nat) : Int))) rfl rfl (decide_eq_true (by omega)))
    (ibCons (ibSub (a := (v - 1)) (b := (1)) (c := (v - 2)) rfl rfl rfl (by first | assumption | omega) (by omega) (by omega))
    (ibCons (ibSub (a := (((0 + 4 : Nat) : Int))) (b := (2)) (c := (((0 + 2 : Nat) : Int))) rfl rfl rfl (by first | assumption | omega) (by omega) (by omega))
    (ibCons (ibLe (a := (((0 + 2 : Nat) : Int))) (b := (((0 + 4 : Nat) : Int))) rfl rfl (decide_eq_true (by omega)))
    (ibCons (ibEq (a := (((0 + 3 : Nat) : Int))) (b := (0)) rfl rfl (decide_eq_false (by omega)))
    (ibCons (ibAdd (a := (((0 + 2 : Nat) : Int))) (b := (0)) (c := (((0 + 2 : Nat) : Int))) rfl rfl rfl (by first | assumption | omega) (by omega) (by omega))
    ibNil)))))))))))))))))))))))))))))))))
theorem icS {v : Int} {r : Int} {wd : Int} {c0 : Int} {c1 : Int} {s : Nat} {d : Nat} (h1 : 2 ≤ v) (h2 : v ≤ 200) (h7 : 0 ≤ c0) (h8 : c0 ≤ 100000) (h9 : 0 ≤ c1) (h10 : c1 ≤ 100000) : ∀ x_ ∈ ([(.i32, .oi 0, .oi 5), (.i64, .oi 5, .oi 0), (.i32, .oi 6, .oi 7), (.i64, .oi 7, .oi 6), (.i32, .oi 9, .oi 10), (.i64, .oi 10, .oi 9)] : List (IntKind × AV × AV)), IcOk' (ivB v r wd c0 c1 s d) x_ := (icCons (ic32 (n := (v)) rfl rfl (by omega) (by omega)) (icCons (ic64 (n := (v)) rfl rfl (by omega) (by omega)) (icCons (ic32 (n := (v - 1)) rfl rfl (by omega) (by omega)) (icCons (ic64 (n := (v - 1)) rfl rfl (by omega) (by omega)) (icCons (ic32 (n := (v - 2)) rfl rfl (by omega) (by omega)) (icCons (ic64 (n := (v - 2)) rfl rfl (by omega) (by omega)) icNil))))))
theorem vlS {v : Int} {r : Int} {wd : Int} {c0 : Int} {c1 : Int} {s : Nat} {d : Nat} (h1 : 2 ≤ v) (h2 : v ≤ 200) (h7 : 0 ≤ c0) (h8 : c0 ≤ 100000) (h9 : 0 ≤ c1) (h10 : c1 ≤ 100000) : ∀ x_ ∈ ([⟨3, 1, 1, 0, [(pN 20005)]⟩, ⟨2, 1, 7, 4, [z1]⟩, ⟨2, 1, 7, 3, [z0]⟩, ⟨0, 1, 1, 0, [(oN 0)]⟩, ⟨1, 1, 1, 0, [bF]⟩, ⟨2, 1, 7, 6, [z0]⟩, ⟨2, 1, 7, 5, [z2]⟩, ⟨7, 1, 7, 6, [z1]⟩, ⟨5, 2, 1, 0, [(oN 0)]⟩, ⟨6, 2, 1, 0, [bF]⟩, ⟨9, 1, 7, 4, [z1]⟩, ⟨9, 1, 7, 3, [z0]⟩, ⟨5, 1, 1, 0, [(oN 0)]⟩, ⟨6, 1, 1, 0, [bF]⟩, ⟨9, 1, 7, 6, [z0]⟩, ⟨9, 1, 7, 5, [z2]⟩, ⟨11, 1, 7, 6, [z1]⟩, ⟨11, 1, 7, 5, [z2]⟩, ⟨15, 1, 7, 6, [z2]⟩, ⟨13, 3, 1, 0, [z1]⟩, ⟨14, 3, 1, 0, [bF]⟩, ⟨13, 2, 1, 0, [(oN 0)]⟩, ⟨14, 2, 1, 0, [bF]⟩, ⟨16, 1, 7, 6, [z0]⟩, ⟨16, 1, 7, 5, [z2]⟩, ⟨19, 1, 7, 6, [z1]⟩, ⟨18, 2, 1, 0, [(oN 6)]⟩, ⟨21, 2, 7, 4, [z1]⟩, ⟨21, 2, 7, 3, [(oN 2)]⟩, ⟨23, 2, 1, 0, [(pN 20279)]⟩, ⟨21, 2, 7, 6, [z0]⟩, ⟨21, 2, 7, 5, [z2]⟩, ⟨26, 2, 7, 6, [z1]⟩, ⟨25, 3, 1, 0, [(oN 6)]⟩, ⟨28, 2, 7, 4, [z1]⟩, ⟨28, 2, 7, 3, [(oN 2)]⟩, ⟨25, 2, 1, 0, [(oN 6)]⟩, ⟨28, 2, 7, 6, [z0]⟩, ⟨28, 2, 7, 5, [z2]⟩, ⟨30, 2, 7, 6, [z1]⟩, ⟨30, 2, 7, 5, [z2]⟩, ⟨34, 2, 7, 6, [z2]⟩, ⟨32, 4, 1, 0, [z1]⟩, ⟨33, 4, 1, 0, [bF]⟩, ⟨32, 3, 1, 0, [(oN 6)]⟩, ⟨33, 3, 1, 0, [bF]⟩, ⟨35, 2, 7, 6, [z0]⟩, ⟨35, 2, 7, 5, [z2]⟩, ⟨38, 2, 7, 6, [z1]⟩, ⟨37, 3, 1, 0, [(oN 9)]⟩, ⟨40, 3, 7, 4, [z1]⟩, ⟨40, 3, 7, 3, [(oN 3)]⟩] : List VL), VlOk (ivB v r wd c0 c1 s d) (vvB s d) x_ :=
  (allCons (vlP (k := 0) (b := 0) (c := 3) (o := 0) (L := [(pN 20005)]) rfl rfl (by show (0) * 1 + 0 = 0 + 0; omega) rfl)
    (allCons (vlP (k := 0) (b := 0) (c := 2) (o := 4) (L := [z0, z0, z0, z0, z1, z2, z0]) rfl rfl (by show (0) * 7 + 4 = 0 + 4; omega) rfl)
    (allCons (vlP (k := 0) (b := 0) (c := 2) (o := 3) (L := [z0, z0, z0, z0, z1, z2, z0]) rfl rfl (by show (0) * 7 + 3 = 0 + 3; omega) rfl)
    (allCons (vlP (k := 0) (b := 0) (c := 0) (o := 0) (L := [(oN 0)]) rfl rfl (by show (0) * 1 + 0 = 0 + 0; omega) rfl)
    (allCons (vlP (k := 0) (b := 0) (c := 1) (o := 0) (L := [bF]) rfl rfl (by show (0) * 1 + 0 = 0 + 0; omega) rfl)
    (allCons (vlP (k := 0) (b := 0) (c := 2) (o := 6) (L := [z0, z0, z0, z0, z1, z2, z0]) rfl rfl (by show (0) * 7 + 6 = 0 + 6; omega) rfl)
    (allCons (vlP (k := 0) (b := 0) (c := 2) (o := 5) (L := [z0, z0, z0, z0, z1, z2, z0]) rfl rfl (by show (0) * 7 + 5 = 0 + 5; omega) rfl)
    (allCons (vlP (k := 0) (b := 0) (c := 2) (o := 6) (L := [z0, z0, z1, z0, z1, z2, z1]) rfl rfl (by show (0) * 7 + 6 = 0 + 6; omega) rfl)
    (allCons (vlP (k := 0 + 1) (b := 0) (c := 0) (o := 1) (L := [(oN 0), (oN 0)]) rfl rfl (by show (0 + 1) * 1 + 0 = 0 + 1; omega) rfl)
    (allCons (vlP (k := 0 + 1) (b := 0) (c := 1) (o := 1) (L := [bF, bF]) rfl rfl (by show (0 + 1) * 1 + 0 = 0 + 1; omega) rfl)
    (allCons (vlP (k := 0) (b := 0) (c := 2) (o := 4) (L := [z0, z0, (iN 6), z0, z1, z2, z0]) rfl rfl (by show (0) * 7 + 4 = 0 + 4; omega) rfl)
    (allCons (vlP (k := 0) (b := 0) (c := 2) (o := 3) (L := [z0, z0, (iN 6), z0, z1, z2, z0]) rfl rfl (by show (0) * 7 + 3 = 0 + 3; omega) rfl)
    (allCons (vlP (k := 0) (b := 0) (c := 0) (o := 0) (L := [(oN 0), (oN 0)]) rfl rfl (by show (0) * 1 + 0 = 0 + 0; omega) rfl)
    (allCons (vlP (k := 0) (b := 0) (c := 1) (o := 0) (L := [bF, bF]) rfl rfl (by show (0) * 1 + 0 = 0 + 0; omega) rfl)
    (allCons (vlP (k := 0) (b := 0) (c := 2) (o := 6) (L := [z0, z0, (iN 6), z0, z1, z2, z0]) rfl rfl (by show (0) * 7 + 6 = 0 + 6; omega) rfl)
    (allCons (vlP (k := 0) (b := 0) (c := 2) (o := 5) (L := [z0, z0, (iN 6), z0, z1, z2, z0]) rfl rfl (by show (0) * 7 + 5 = 0 + 5; omega) rfl)
    (allCons (vlP (k := 0) (b := 0) (c := 2) (o := 6) (L := [z0, z0, (iN 7), z0, z1, z2, z1]) rfl rfl (by show (0) * 7 + 6 = 0 + 6; omega) rfl)
    (allCons (vlP (k := 0) (b := 0) (c := 2) (o := 5) (L := [z0, z0, (iN 7), z0, z1, z2, z1]) rfl rfl (by show (0) * 7 + 5 = 0 + 5; omega) rfl)
    (allCons (vlP (k := 0) (b := 0) (c := 2) (o := 6) (L := [z0, z0, (iN 8), z0, z1, z2, z2]) rfl rfl (by show (0) * 7 + 6 = 0 + 6; omega) rfl)
    (allCons (vlP (k := 0 + 2) (b := 0) (c := 0) (o := 2) (L := [(oN 0), (oN 0), z1]) rfl rfl (by show (0 + 2) * 1 + 0 = 0 + 2; omega) rfl)
    (allCons (vlP (k := 0 + 2) (b := 0) (c := 1) (o := 2) (L := [bF, bF, bF]) rfl rfl (by show (0 + 2) * 1 + 0 = 0 + 2; omega) rfl)
    (allCons (vlP (k := 0 + 1) (b := 0) (c := 0) (o := 1) (L := [(oN 0), (oN 0), z1]) rfl rfl (by show (0 + 1) * 1 + 0 = 0 + 1; omega) rfl)
    (allCons (vlP (k := 0 + 1) (b := 0) (c := 1) (o := 1) (L := [bF, bF, bF]) rfl rfl (by show (0 + 1) * 1 + 0 = 0 + 1; omega) rfl)
    (allCons (vlP (k := 0) (b := 0) (c := 2) (o := 6) (L := [z0, z0, (iN 8), z0, z1, z2, z0]) rfl rfl (by show (0) * 7 + 6 = 0 + 6; omega) rfl)
    (allCons (vlP (k := 0) (b := 0) (c := 2) (o := 5) (L := [z0, z0, (iN 8), z0, z1, z2, z0]) rfl rfl (by show (0) * 7 + 5 = 0 + 5; omega) rfl)
    (allCons (vlP (k := 0) (b := 0) (c := 2) (o := 6) (L := [z0, z0, (iN 9), z0, z1, z2, z1]) rfl rfl (by show (0) * 7 + 6 = 0 + 6; omega) rfl)
    (allCons (vlP (k := 0 + 1) (b := 0) (c := 0) (o := 1) (L := [(oN 0), (oN 6)]) rfl rfl (by show (0 + 1) * 1 + 0 = 0 + 1; omega) rfl)
    (allCons (vlP (k := 0 + 1) (b := 0) (c := 2) (o := 11) (L := [z0, z0, (iN 9), z0, z1, z2, z0, z0, z1, z0, (oN 2), z1, z2, z0]) rfl rfl (by show (0 + 1) * 7 + 4 = 0 + 11; omega) rfl)
    (allCons (vlP (k := 0 + 1) (b := 0) (c := 2) (o := 10) (L := [z0, z0, (iN 9), z0, z1, z2, z0, z0, z1, z0, (oN 2), z1, z2, z0]) rfl rfl (by show (0 + 1) * 7 + 3 = 0 + 10; omega) rfl)
    (allCons (vlP (k := 0 + 1) (b := 0) (c := 3) (o := 1) (L := [(pN 20005), (pN 20279)]) rfl rfl (by show (0 + 1) * 1 + 0 = 0 + 1; omega) rfl)
    (allCons (vlP (k := 0 + 1) (b := 0) (c := 2) (o := 13) (L := [z0, z0, (iN 9), z0, z1, z2, z0, z0, z1, z0, (oN 2), z1, z2, z0]) rfl rfl (by show (0 + 1) * 7 + 6 = 0 + 13; omega) rfl)
    (allCons (vlP (k := 0 + 1) (b := 0) (c := 2) (o := 12) (L := [z0, z0, (iN 9), z0, z1, z2, z0, z0, z1, z0, (oN 2), z1, z2, z0]) rfl rfl (by show (0 + 1) * 7 + 5 = 0 + 12; omega) rfl)
    (allCons (vlP (k := 0 + 1) (b := 0) (c := 2) (o := 13) (L := [z0, z0, (iN 9), z0, z1, z2, z0, z0, z1, z1, (oN 2), z1, z2, z1]) rfl rfl (by show (0 + 1) * 7 + 6 = 0 + 13; omega) rfl)
    (allCons (vlP (k := 0 + 2) (b := 0) (c := 0) (o := 2) (L := [(oN 0), (oN 6), (oN 6)]) rfl rfl (by show (0 + 2) * 1 + 0 = 0 + 2; omega) rfl)
    (allCons (vlP (k := 0 + 1) (b := 0) (c := 2) (o := 11) (L := [z0, z0, (iN 9), z0, z1, z2, z0, z0, z1, (iN 6), (oN 2), z1, z2, z0]) rfl rfl (by show (0 + 1) * 7 + 4 = 0 + 11; omega) rfl)
    (allCons (vlP (k := 0 + 1) (b := 0) (c := 2) (o := 10) (L := [z0, z0, (iN 9), z0, z1, z2, z0, z0, z1, (iN 6), (oN 2), z1, z2, z0]) rfl rfl (by show (0 + 1) * 7 + 3 = 0 + 10; omega) rfl)
    (allCons (vlP (k := 0 + 1) (b := 0) (c := 0) (o := 1) (L := [(oN 0), (oN 6), (oN 6)]) rfl rfl (by show (0 + 1) * 1 + 0 = 0 + 1; omega) rfl)
    (allCons (vlP (k := 0 + 1) (b := 0) (c := 2) (o := 13) (L := [z0, z0, (iN 9), z0, z1, z2, z0, z0, z1, (iN 6), (oN 2), z1, z2, z0]) rfl rfl (by show (0 + 1) * 7 + 6 = 0 + 13; omega) rfl)
    (allCons (vlP (k := 0 + 1) (b := 0) (c := 2) (o := 12) (L := [z0, z0, (iN 9), z0, z1, z2, z0, z0, z1, (iN 6), (oN 2), z1, z2, z0]) rfl rfl (by show (0 + 1) * 7 + 5 = 0 + 12; omega) rfl)
    (allCons (vlP (k := 0 + 1) (b := 0) (c := 2) (o := 13) (L := [z0, z0, (iN 9), z0, z1, z2, z0, z0, z1, (iN 7), (oN 2), z1, z2, z1]) rfl rfl (by show (0 + 1) * 7 + 6 = 0 + 13; omega) rfl)
    (allCons (vlP (k := 0 + 1) (b := 0) (c := 2) (o := 12) (L := [z0, z0, (iN 9), z0, z1, z2, z0, z0, z1, (iN 7), (oN 2), z1, z2, z1]) rfl rfl (by show (0 + 1) * 7 + 5 = 0 + 12; omega) rfl)
    (allCons (vlP (k := 0 + 1) (b := 0) (c := 2) (o := 13) (L := [z0, z0, (iN 9), z0, z1, z2, z0, z0, z1, (iN 8), (oN 2), z1, z2, z2]) rfl rfl (by show (0 + 1) * 7 + 6 = 0 + 13; omega) rfl)
    (allCons (vlP (k := 0 + 3) (b := 0) (c := 0) (o := 3) (L := [(oN 0), (oN 6), (oN 6), z1]) rfl rfl (by show (0 + 3) * 1 + 0 = 0 + 3; omega) rfl)
    (allCons (vlP (k := 0 + 3) (b := 0) (c := 1) (o := 3) (L := [bF, bF, bF, bF]) rfl rfl (by show (0 + 3) * 1 + 0 = 0 + 3; omega) rfl)
    (allCons (vlP (k := 0 + 2) (b := 0) (c := 0) (o := 2) (L := [(oN 0), (oN 6), (oN 6), z1]) rfl rfl (by show (0 + 2) * 1 + 0 = 0 + 2; omega) rfl)
    (allCons (vlP (k := 0 + 2) (b := 0) (c := 1) (o := 2) (L := [bF, bF, bF, bF]) rfl rfl (by show (0 + 2) * 1 + 0 = 0 + 2; omega) rfl)
    (allCons (vlP (k := 0 + 1) (b := 0) (c := 2) (o := 13) (L := [z0, z0, (iN 9), z0, z1, z2, z0, z0, z1, (iN 8), (oN 2), z1, z2, z0]) rfl rfl (by show (0 + 1) * 7 + 6 = 0 + 13; omega) rfl)
    (allCons (vlP (k := 0 + 1) (b := 0) (c := 2) (o := 12) (L := [z0, z0, (iN 9), z0, z1, z2, z0, z0, z1, (iN 8), (oN 2), z1, z2, z0]) rfl rfl (by show (0 + 1) * 7 + 5 = 0 + 12; omega) rfl)
    (allCons (vlP (k := 0 + 1) (b := 0) (c := 2) (o := 13) (L := [z0, z0, (iN 9), z0, z1, z2, z0, z0, z1, (iN 9), (oN 2), z1, z2, z1]) rfl rfl (by show (0 + 1) * 7 + 6 = 0 + 13; omega) rfl)
    (allCons (vlP (k := 0 + 2) (b := 0) (c := 0) (o := 2) (L := [(oN 0), (oN 6), (oN 9)]) rfl rfl (by show (0 + 2) * 1 + 0 = 0 + 2; omega) rfl)
    (allCons (vlP (k := 0 + 2) (b := 0) (c := 2) (o := 18) (L := [z0, z0, (iN 9), z0, z1, z2, z0, z0, z1, (iN 9), (oN 2), z1, z2, z0, z0, z0, z0, (oN 3), z1, z2, z0]) rfl rfl (by show (0 + 2) * 7 + 4 = 0 + 18; omega) rfl)
    (allCons (vlP (k := 0 + 2) (b := 0) (c := 2) (o := 17) (L := [z0, z0, (iN 9), z0, z1, z2, z0, z0, z1, (iN 9), (oN 2), z1, z2, z0, z0, z0, z0, (oN 3), z1, z2, z0]) rfl rfl (by show (0 + 2) * 7 + 3 = 0 + 17; omega) rfl)
    allNil))))))))))))))))))))))))))))))))))))))))))))))))))))
theorem vsS {v : Int} {r : Int} {wd : Int} {c0 : Int} {c1 : Int} {s : Nat} {d : Nat} (h1 : 2 ≤ v) (h2 : v ≤ 200) (h7 : 0 ≤ c0) (h8 : c0 ≤ 100000) (h9 : 0 ≤ c1) (h10 : c1 ≤ 100000) : ∀ x_ ∈ ([⟨2, 1, 7, 2, [z0], 2⟩, ⟨2, 1, 7, 6, [z1], 4⟩, ⟨4, 1, 7, 2, [z1], 7⟩, ⟨7, 1, 7, 6, [z0], 8⟩, ⟨8, 1, 7, 2, [(iN 6)], 9⟩, ⟨9, 1, 7, 6, [z1], 10⟩, ⟨10, 1, 7, 2, [(iN 7)], 11⟩, ⟨11, 1, 7, 6, [z2], 12⟩, ⟨12, 1, 7, 2, [(iN 8)], 15⟩, ⟨15, 1, 7, 6, [z0], 16⟩, ⟨16, 1, 7, 6, [z1], 17⟩, ⟨17, 1, 7, 2, [(iN 9)], 19⟩, ⟨19, 1, 7, 6, [z0], 20⟩, ⟨22, 2, 1, 0, [(oN 6)], 18⟩, ⟨6, 2, 1, 0, [bF], 6⟩, ⟨21, 2, 7, 2, [z0], 21⟩, ⟨21, 2, 7, 6, [z1], 24⟩, ⟨24, 2, 7, 2, [z1], 26⟩, ⟨26, 2, 7, 6, [z0], 27⟩, ⟨27, 2, 7, 2, [(iN 6)], 28⟩, ⟨28, 2, 7, 6, [z1], 29⟩, ⟨29, 2, 7, 2, [(iN 7)], 30⟩, ⟨30, 2, 7, 6, [z2], 31⟩, ⟨31, 2, 7, 2, [(iN 8)], 34⟩, ⟨34, 2, 7, 6, [z0], 35⟩, ⟨35, 2, 7, 6, [z1], 36⟩, ⟨36, 2, 7, 2, [(iN 9)], 38⟩, ⟨38, 2, 7, 6, [z0], 39⟩, ⟨41, 3, 1, 0, [(oN 9)], 37⟩, ⟨14, 3, 1, 0, [bF], 14⟩] : List VS), VsOk (ivB v r wd c0 c1 s d) (vvB s d) (vkB s d) x_ :=
  (allCons (vsP (k := 0) (b := 0) (c := 2) (o := 2) (L := [z0, z0, z0, z0, z1, z2, z0]) (L' := [z0, z0, z0, z0, z1, z2, z0]) rfl rfl rfl rfl rfl (by show (0) * 7 + 2 = 0 + 2; omega) rfl (by decide))
    (allCons (vsP (k := 0) (b := 0) (c := 2) (o := 6) (L := [z0, z0, z0, z0, z1, z2, z0]) (L' := [z0, z0, z0, z0, z1, z2, z1]) rfl rfl rfl rfl rfl (by show (0) * 7 + 6 = 0 + 6; omega) rfl (by decide))
    (allCons (vsP (k := 0) (b := 0) (c := 2) (o := 2) (L := [z0, z0, z0, z0, z1, z2, z1]) (L' := [z0, z0, z1, z0, z1, z2, z1]) rfl rfl rfl rfl rfl (by show (0) * 7 + 2 = 0 + 2; omega) rfl (by decide))
    (allCons (vsP (k := 0) (b := 0) (c := 2) (o := 6) (L := [z0, z0, z1, z0, z1, z2, z1]) (L' := [z0, z0, z1, z0, z1, z2, z0]) rfl rfl rfl rfl rfl (by show (0) * 7 + 6 = 0 + 6; omega) rfl (by decide))
    (allCons (vsP (k := 0) (b := 0) (c := 2) (o := 2) (L := [z0, z0, z1, z0, z1, z2, z0]) (L' := [z0, z0, (iN 6), z0, z1, z2, z0]) rfl rfl rfl rfl rfl (by show (0) * 7 + 2 = 0 + 2; omega) rfl (by decide))
    (allCons (vsP (k := 0) (b := 0) (c := 2) (o := 6) (L := [z0, z0, (iN 6), z0, z1, z2, z0]) (L' := [z0, z0, (iN 6), z0, z1, z2, z1]) rfl rfl rfl rfl rfl (by show (0) * 7 + 6 = 0 + 6; omega) rfl (by decide))
    (allCons (vsP (k := 0) (b := 0) (c := 2) (o := 2) (L := [z0, z0, (iN 6), z0, z1, z2, z1]) (L' := [z0, z0, (iN 7), z0, z1, z2, z1]) rfl rfl rfl rfl rfl (by show (0) * 7 + 2 = 0 + 2; omega) rfl (by decide))
    (allCons (vsP (k := 0) (b := 0) (c := 2) (o := 6) (L := [z0, z0, (iN 7), z0, z1, z2, z1]) (L' := [z0, z0, (iN 7), z0, z1, z2, z2]) rfl rfl rfl rfl rfl (by show (0) * 7 + 6 = 0 + 6; omega) rfl (by decide))
    (allCons (vsP (k := 0) (b := 0) (c := 2) (o := 2) (L := [z0, z0, (iN 7), z0, z1, z2, z2]) (L' := [z0, z0, (iN 8), z0, z1, z2, z2]) rfl rfl rfl rfl rfl (by show (0) * 7 + 2 = 0 + 2; omega) rfl (by decide))
    (allCons (vsP (k := 0) (b := 0) (c := 2) (o := 6) (L := [z0, z0, (iN 8), z0, z1, z2, z2]) (L' := [z0, z0, (iN 8), z0, z1, z2, z0]) rfl rfl rfl rfl rfl (by show (0) * 7 + 6 = 0 + 6; omega) rfl (by decide))
    (allCons (vsP (k := 0) (b := 0) (c := 2) (o := 6) (L := [z0, z0, (iN 8), z0, z1, z2, z0]) (L' := [z0, z0, (iN 8), z0, z1, z2, z1]) rfl rfl rfl rfl rfl (by show (0) * 7 + 6 = 0 + 6; omega) rfl (by decide))
    (allCons (vsP (k := 0) (b := 0) (c := 2) (o := 2) (L := [z0, z0, (iN 8), z0, z1, z2, z1]) (L' := [z0, z0, (iN 9), z0, z1, z2, z1]) rfl rfl rfl rfl rfl (by show (0) * 7 + 2 = 0 + 2; omega) rfl (by decide))
    (allCons (vsP (k := 0) (b := 0) (c := 2) (o := 6) (L := [z0, z0, (iN 9), z0, z1, z2, z1]) (L' := [z0, z0, (iN 9), z0, z1, z2, z0]) rfl rfl rfl rfl rfl (by show (0) * 7 + 6 = 0 + 6; omega) rfl (by decide))
    (allCons (vsP (k := 0 + 1) (b := 0) (c := 0) (o := 1) (L := [(oN 0), z0]) (L' := [(oN 0), (oN 6)]) rfl rfl rfl rfl rfl (by show (0 + 1) * 1 + 0 = 0 + 1; omega) rfl (by decide))
    (allCons (vsP (k := 0 + 1) (b := 0) (c := 1) (o := 1) (L := [bF, bF]) (L' := [bF, bF]) rfl rfl rfl rfl rfl (by show (0 + 1) * 1 + 0 = 0 + 1; omega) rfl (by decide))
    (allCons (vsP (k := 0 + 1) (b := 0) (c := 2) (o := 9) (L := [z0, z0, (iN 9), z0, z1, z2, z0, z0, z1, z0, (oN 2), z1, z2, z0]) (L' := [z0, z0, (iN 9), z0, z1, z2, z0, z0, z1, z0, (oN 2), z1, z2, z0]) rfl rfl rfl rfl rfl (by show (0 + 1) * 7 + 2 = 0 + 9; omega) rfl (by decide))
    (allCons (vsP (k := 0 + 1) (b := 0) (c := 2) (o := 13) (L := [z0, z0, (iN 9), z0, z1, z2, z0, z0, z1, z0, (oN 2), z1, z2, z0]) (L' := [z0, z0, (iN 9), z0, z1, z2, z0, z0, z1, z0, (oN 2), z1, z2, z1]) rfl rfl rfl rfl rfl (by show (0 + 1) * 7 + 6 = 0 + 13; omega) rfl (by decide))
    (allCons (vsP (k := 0 + 1) (b := 0) (c := 2) (o := 9) (L := [z0, z0, (iN 9), z0, z1, z2, z0, z0, z1, z0, (oN 2), z1, z2, z1]) (L' := [z0, z0, (iN 9), z0, z1, z2, z0, z0, z1, z1, (oN 2), z1, z2, z1]) rfl rfl rfl rfl rfl (by show (0 + 1) * 7 + 2 = 0 + 9; omega) rfl (by decide))
    (allCons (vsP (k := 0 + 1) (b := 0) (c := 2) (o := 13) (L := [z0, z0, (iN 9), z0, z1, z2, z0, z0, z1, z1, (oN 2), z1, z2, z1]) (L' := [z0, z0, (iN 9), z0, z1, z2, z0, z0, z1, z1, (oN 2), z1, z2, z0]) rfl rfl rfl rfl rfl (by show (0 + 1) * 7 + 6 = 0 + 13; omega) rfl (by decide))
    (allCons (vsP (k := 0 + 1) (b := 0) (c := 2) (o := 9) (L := [z0, z0, (iN 9), z0, z1, z2, z0, z0, z1, z1, (oN 2), z1, z2, z0]) (L' := [z0, z0, (iN 9), z0, z1, z2, z0, z0, z1, (iN 6), (oN 2), z1, z2, z0]) rfl rfl rfl rfl rfl (by show (0 + 1) * 7 + 2 = 0 + 9; omega) rfl (by decide))
    (allCons (vsP (k := 0 + 1) (b := 0) (c := 2) (o := 13) (L := [z0, z0, (iN 9), z0, z1, z2, z0, z0, z1, (iN 6), (oN 2), z1, z2, z0]) (L' := [z0, z0, (iN 9), z0, z1, z2, z0, z0, z1, (iN 6), (oN 2), z1, z2, z1]) rfl rfl rfl rfl rfl (by show (0 + 1) * 7 + 6 = 0 + 13; omega) rfl (by decide))
    (allCons (vsP (k := 0 + 1) (b := 0) (c := 2) (o := 9) (L := [z0, z0, (iN 9), z0, z1, z2, z0, z0, z1, (iN 6), (oN 2), z1, z2, z1]) (L' := [z0, z0, (iN 9), z0, z1, z2, z0, z0, z1, (iN 7), (oN 2), z1, z2, z1]) rfl rfl rfl rfl rfl (by show (0 + 1) * 7 + 2 = 0 + 9; omega) rfl (by decide))
    (allCons (vsP (k := 0 + 1) (b := 0) (c := 2) (o := 13) (L := [z0, z0, (iN 9), z0, z1, z2, z0, z0, z1, (iN 7), (oN 2), z1, z2, z1]) (L' := [z0, z0, (iN 9), z0, z1, z2, z0, z0, z1, (iN 7), (oN 2), z1, z2, z2]) rfl rfl rfl rfl rfl (by show (0 + 1) * 7 + 6 = 0 + 13; omega) rfl (by decide))
    (allCons (vsP (k := 0 + 1) (b := 0) (c := 2) (o := 9) (L := [z0, z0, (iN 9), z0, z1, z2, z0, z0, z1, (iN 7), (oN 2), z1, z2, z2]) (L' := [z0, z0, (iN 9), z0, z1, z2, z0, z0, z1, (iN 8), (oN 2), z1, z2, z2]) rfl rfl rfl rfl rfl (by show (0 + 1) * 7 + 2 = 0 + 9; omega) rfl (by decide))
    (allCons (vsP (k := 0 + 1) (b := 0) (c := 2) (o := 13) (L := [z0, z0, (iN 9), z0, z1, z2, z0, z0, z1, (iN 8), (oN 2), z1, z2, z2]) (L' := [z0, z0, (iN 9), z0, z1, z2, z0, z0, z1, (iN 8), (oN 2), z1, z2, z0]) rfl rfl rfl rfl rfl (by show (0 + 1) * 7 + 6 = 0 + 13; omega) rfl (by decide))
    (allCons (vsP (k := 0 + 1) (b := 0) (c := 2) (o := 13) (L := [z0, z0, (iN 9), z0, z1, z2, z0, z0, z1, (iN 8), (oN 2), z1, z2, z0]) (L' := [z0, z0, (iN 9), z0, z1, z2, z0, z0, z1, (iN 8), (oN 2), z1, z2, z1]) rfl rfl rfl rfl rfl (by show (0 + 1) * 7 + 6 = 0 + 13; omega) rfl (by decide))
    (allCons (vsP (k := 0 + 1) (b := 0) (c := 2) (o := 9) (L := [z0, z0, (iN 9), z0, z1, z2, z0, z0, z1, (iN 8), (oN 2), z1, z2, z1]) (L' := [z0, z0, (iN 9), z0, z1, z2, z0, z0, z1, (iN 9), (oN 2), z1, z2, z1]) rfl rfl rfl rfl rfl (by show (0 + 1) * 7 + 2 = 0 + 9; omega) rfl (by decide))
    (allCons (vsP (k := 0 + 1) (b := 0) (c := 2) (o := 13) (L := [z0, z0, (iN 9), z0, z1, z2, z0, z0, z1, (iN 9), (oN 2), z1, z2, z1]) (L' := [z0, z0, (iN 9), z0, z1, z2, z0, z0, z1, (iN 9), (oN 2), z1, z2, z0]) rfl rfl rfl rfl rfl (by show (0 + 1) * 7 + 6 = 0 + 13; omega) rfl (by decide))
    (allCons (vsP (k := 0 + 2) (b := 0) (c := 0) (o := 2) (L := [(oN 0), (oN 6), z0]) (L' := [(oN 0), (oN 6), (oN 9)]) rfl rfl rfl rfl rfl (by show (0 + 2) * 1 + 0 = 0 + 2; omega) rfl (by decide))
    (allCons (vsP (k := 0 + 2) (b := 0) (c := 1) (o := 2) (L := [bF, bF, bF]) (L' := [bF, bF, bF]) rfl rfl rfl rfl rfl (by show (0 + 2) * 1 + 0 = 0 + 2; omega) rfl (by decide))
    allNil))))))))))))))))))))))))))))))
theorem vaS {v : Int} {r : Int} {wd : Int} {c0 : Int} {c1 : Int} {s : Nat} {d : Nat} (h1 : 2 ≤ v) (h2 : v ≤ 200) (h7 : 0 ≤ c0) (h8 : c0 ≤ 100000) (h9 : 0 ≤ c1) (h10 : c1 ≤ 100000) : ∀ x_ ∈ ([⟨0, 2, 1, [(oN 0)], 5, 3⟩, ⟨1, 2, 1, [bF], 6, 3⟩, ⟨5, 2, 1, [(oN 0)], 5, 3⟩, ⟨6, 2, 1, [bF], 6, 3⟩, ⟨5, 3, 1, [z1], 13, 4⟩, ⟨6, 3, 1, [bF], 14, 4⟩, ⟨13, 2, 1, [(oN 6)], 18, 3⟩, ⟨14, 2, 1, [bF], 6, 3⟩, ⟨20, 2, 7, [z0, z1, z0, (oN 2), z1, z2, z0], 21, 3⟩, ⟨18, 2, 1, [z0], 22, 3⟩, ⟨3, 2, 1, [(pN 20279)], 23, 3⟩, ⟨18, 3, 1, [(oN 6)], 25, 4⟩, ⟨25, 3, 1, [(oN 6)], 25, 4⟩, ⟨14, 3, 1, [bF], 14, 4⟩, ⟨25, 4, 1, [z1], 32, 8⟩, ⟨14, 4, 1, [bF], 33, 8⟩, ⟨32, 3, 1, [(oN 9)], 37, 4⟩, ⟨33, 3, 1, [bF], 14, 4⟩, ⟨39, 3, 7, [z0, z0, z0, (oN 3), z1, z2, z0], 40, 4⟩, ⟨37, 3, 1, [z0], 41, 4⟩, ⟨23, 3, 1, [(pN 20551)], 42, 4⟩] : List VA), VaOk (ivB v r wd c0 c1 s d) (vvB s d) (vkB s d) x_ :=
  (allCons (vaP (j := 0 + 1) (j' := 0 + 2) (b := 0) (c := 0) (o := 1) (L := [(oN 0)]) (L' := [(oN 0), (oN 0)]) rfl rfl rfl rfl rfl (by show (0 + 1) * 1 = 0 + 1; omega) (by show (0 + 2) * 1 = 0 + 1 + 1; omega) rfl (by decide) (by show 0 + 2 < 1000000; omega))
    (allCons (vaP (j := 0 + 1) (j' := 0 + 2) (b := 0) (c := 1) (o := 1) (L := [bF]) (L' := [bF, bF]) rfl rfl rfl rfl rfl (by show (0 + 1) * 1 = 0 + 1; omega) (by show (0 + 2) * 1 = 0 + 1 + 1; omega) rfl (by decide) (by show 0 + 2 < 1000000; omega))
    (allCons (vaP (j := 0 + 1) (j' := 0 + 2) (b := 0) (c := 0) (o := 1) (L := [(oN 0), (oN 0)]) (L' := [(oN 0), (oN 0)]) rfl rfl rfl rfl rfl (by show (0 + 1) * 1 = 0 + 1; omega) (by show (0 + 2) * 1 = 0 + 1 + 1; omega) rfl (by decide) (by show 0 + 2 < 1000000; omega))
    (allCons (vaP (j := 0 + 1) (j' := 0 + 2) (b := 0) (c := 1) (o := 1) (L := [bF, bF]) (L' := [bF, bF]) rfl rfl rfl rfl rfl (by show (0 + 1) * 1 = 0 + 1; omega) (by show (0 + 2) * 1 = 0 + 1 + 1; omega) rfl (by decide) (by show 0 + 2 < 1000000; omega))
    (allCons (vaP (j := 0 + 2) (j' := 0 + 3) (b := 0) (c := 0) (o := 2) (L := [(oN 0), (oN 0)]) (L' := [(oN 0), (oN 0), z1]) rfl rfl rfl rfl rfl (by show (0 + 2) * 1 = 0 + 2; omega) (by show (0 + 3) * 1 = 0 + 2 + 1; omega) rfl (by decide) (by show 0 + 3 < 1000000; omega))
    (allCons (vaP (j := 0 + 2) (j' := 0 + 3) (b := 0) (c := 1) (o := 2) (L := [bF, bF]) (L' := [bF, bF, bF]) rfl rfl rfl rfl rfl (by show (0 + 2) * 1 = 0 + 2; omega) (by show (0 + 3) * 1 = 0 + 2 + 1; omega) rfl (by decide) (by show 0 + 3 < 1000000; omega))
    (allCons (vaP (j := 0 + 1) (j' := 0 + 2) (b := 0) (c := 0) (o := 1) (L := [(oN 0), (oN 0), z1]) (L' := [(oN 0), (oN 6)]) rfl rfl rfl rfl rfl (by show (0 + 1) * 1 = 0 + 1; omega) (by show (0 + 2) * 1 = 0 + 1 + 1; omega) rfl (by decide) (by show 0 + 2 < 1000000; omega))
    (allCons (vaP (j := 0 + 1) (j' := 0 + 2) (b := 0) (c := 1) (o := 1) (L := [bF, bF, bF]) (L' := [bF, bF]) rfl rfl rfl rfl rfl (by show (0 + 1) * 1 = 0 + 1; omega) (by show (0 + 2) * 1 = 0 + 1 + 1; omega) rfl (by decide) (by show 0 + 2 < 1000000; omega))
    (allCons (vaP (j := 0 + 1) (j' := 0 + 2) (b := 0) (c := 2) (o := 7) (L := [z0, z0, (iN 9), z0, z1, z2, z0]) (L' := [z0, z0, (iN 9), z0, z1, z2, z0, z0, z1, z0, (oN 2), z1, z2, z0]) rfl rfl rfl rfl rfl (by show (0 + 1) * 7 = 0 + 7; omega) (by show (0 + 2) * 7 = 0 + 7 + 7; omega) rfl (by decide) (by show 0 + 2 < 1000000; omega))
    (allCons (vaP (j := 0 + 1) (j' := 0 + 2) (b := 0) (c := 0) (o := 1) (L := [(oN 0), (oN 6)]) (L' := [(oN 0), z0]) rfl rfl rfl rfl rfl (by show (0 + 1) * 1 = 0 + 1; omega) (by show (0 + 2) * 1 = 0 + 1 + 1; omega) rfl (by decide) (by show 0 + 2 < 1000000; omega))
    (allCons (vaP (j := 0 + 1) (j' := 0 + 2) (b := 0) (c := 3) (o := 1) (L := [(pN 20005)]) (L' := [(pN 20005), (pN 20279)]) rfl rfl rfl rfl rfl (by show (0 + 1) * 1 = 0 + 1; omega) (by show (0 + 2) * 1 = 0 + 1 + 1; omega) rfl (by decide) (by show 0 + 2 < 1000000; omega))
    (allCons (vaP (j := 0 + 2) (j' := 0 + 3) (b := 0) (c := 0) (o := 2) (L := [(oN 0), (oN 6)]) (L' := [(oN 0), (oN 6), (oN 6)]) rfl rfl rfl rfl rfl (by show (0 + 2) * 1 = 0 + 2; omega) (by show (0 + 3) * 1 = 0 + 2 + 1; omega) rfl (by decide) (by show 0 + 3 < 1000000; omega))
    (allCons (vaP (j := 0 + 2) (j' := 0 + 3) (b := 0) (c := 0) (o := 2) (L := [(oN 0), (oN 6), (oN 6)]) (L' := [(oN 0), (oN 6), (oN 6)]) rfl rfl rfl rfl rfl (by show (0 + 2) * 1 = 0 + 2; omega) (by show (0 + 3) * 1 = 0 + 2 + 1; omega) rfl (by decide) (by show 0 + 3 < 1000000; omega))
    (allCons (vaP (j := 0 + 2) (j' := 0 + 3) (b := 0) (c := 1) (o := 2) (L := [bF, bF, bF]) (L' := [bF, bF, bF]) rfl rfl rfl rfl rfl (by show (0 + 2) * 1 = 0 + 2; omega) (by show (0 + 3) * 1 = 0 + 2 + 1; omega) rfl (by decide) (by show 0 + 3 < 1000000; omega))
    (allCons (vaP (j := 0 + 3) (j' := 0 + 4) (b := 0) (c := 0) (o := 3) (L := [(oN 0), (oN 6), (oN 6)]) (L' := [(oN 0), (oN 6), (oN 6), z1]) rfl rfl rfl rfl rfl (by show (0 + 3) * 1 = 0 + 3; omega) (by show (0 + 4) * 1 = 0 + 3 + 1; omega) rfl (by decide) (by show 0 + 4 < 1000000; omega))
    (allCons (vaP (j := 0 + 3) (j' := 0 + 4) (b := 0) (c := 1) (o := 3) (L := [bF, bF, bF]) (L' := [bF, bF, bF, bF]) rfl rfl rfl rfl rfl (by show (0 + 3) * 1 = 0 + 3; omega) (by show (0 + 4) * 1 = 0 + 3 + 1; omega) rfl (by decide) (by show 0 + 4 < 1000000; omega))
    (allCons (vaP (j := 0 + 2) (j' := 0 + 3) (b := 0) (c := 0) (o := 2) (L := [(oN 0), (oN 6), (oN 6), z1]) (L' := [(oN 0), (oN 6), (oN 9)]) rfl rfl rfl rfl rfl (by show (0 + 2) * 1 = 0 + 2; omega) (by show (0 + 3) * 1 = 0 + 2 + 1; omega) rfl (by decide) (by show 0 + 3 < 1000000; omega))
    (allCons (vaP (j := 0 + 2) (j' := 0 + 3) (b := 0) (c := 1) (o := 2) (L := [bF, bF, bF, bF]) (L' := [bF, bF, bF]) rfl rfl rfl rfl rfl (by show (0 + 2) * 1 = 0 + 2; omega) (by show (0 + 3) * 1 = 0 + 2 + 1; omega) rfl (by decide) (by show 0 + 3 < 1000000; omega))
    (allCons (vaP (j := 0 + 2) (j' := 0 + 3) (b := 0) (c := 2) (o := 14) (L := [z0, z0, (iN 9), z0, z1, z2, z0, z0, z1, (iN 9), (oN 2), z1, z2, z0]) (L' := [z0, z0, (iN 9), z0, z1, z2, z0, z0, z1, (iN 9), (oN 2), z1, z2, z0, z0, z0, z0, (oN 3), z1, z2, z0]) rfl rfl rfl rfl rfl (by show (0 + 2) * 7 = 0 + 14; omega) (by show (0 + 3) * 7 = 0 + 14 + 7; omega) rfl (by decide) (by show 0 + 3 < 1000000; omega))
    (allCons (vaP (j := 0 + 2) (j' := 0 + 3) (b := 0) (c := 0) (o := 2) (L := [(oN 0), (oN 6), (oN 9)]) (L' := [(oN 0), (oN 6), z0]) rfl rfl rfl rfl rfl (by show (0 + 2) * 1 = 0 + 2; omega) (by show (0 + 3) * 1 = 0 + 2 + 1; omega) rfl (by decide) (by show 0 + 3 < 1000000; omega))
    (allCons (vaP (j := 0 + 2) (j' := 0 + 3) (b := 0) (c := 3) (o := 2) (L := [(pN 20005), (pN 20279)]) (L' := [(pN 20005), (pN 20279), (pN 20551)]) rfl rfl rfl rfl rfl (by show (0 + 2) * 1 = 0 + 2; omega) (by show (0 + 3) * 1 = 0 + 2 + 1; omega) rfl (by decide) (by show 0 + 3 < 1000000; omega))
    allNil)))))))))))))))))))))
abbrev RS {v : Int} {r : Int} {wd : Int} {c0 : Int} {c1 : Int} {s : Nat} {d : Nat} (h1 : 2 ≤ v) (h2 : v ≤ 200) (h7 : 0 ≤ c0) (h8 : c0 ≤ 100000) (h9 : 0 ≤ c1) (h10 : c1 ≤ 100000) : VRows (ivB v r wd c0 c1 s d) (vvB s d) (vkB s d) where
  vvp := vpB s d
  ib := [(9, .oi 2, .int .i64 0, .bool false), (1, .oi 2, .int .i64 1, .oi 1), (11, .oi 1, .oi 2, .bool true), (14, .oi 1, .int .i64 0, .bool true), (1, .oi 3, .int .i64 1, .oi 2), (1, .oi 2, .int .i64 0, .oi 2), (11, .oi 2, .oi 3, .bool true), (14, .oi 2, .int .i64 0, .bool true), (12, .oi 2, .oi 3, .bool true), (10, .oi 0, .int .i64 0, .bool true), (1, .oi 4, .int .i64 1, .oi 3), (1, .oi 3, .int .i64 0, .oi 3), (11, .oi 3, .oi 4, .bool true), (14, .oi 3, .int .i64 0, .bool true), (11, .oi 2, .oi 4, .bool true), (1, .oi 0, .int .i64 1, .oi 6), (1, .oi 4, .int .i64 2, .oi 2), (12, .oi 2, .oi 4, .bool true), (9, .oi 3, .int .i64 0, .bool false), (0, .oi 2, .int .i64 0, .oi 2), (11, .oi 2, .int .i64 0, .bool false), (12, .oi 3, .oi 4, .bool true), (10, .oi 6, .int .i64 0, .bool true), (1, .oi 8, .int .i64 1, .oi 4), (1, .oi 4, .int .i64 0, .oi 4), (11, .oi 4, .oi 8, .bool true), (14, .oi 4, .int .i64 0, .bool true), (11, .oi 3, .oi 8, .bool true), (1, .oi 6, .int .i64 1, .oi 9), (1, .oi 8, .int .i64 2, .oi 3), (12, .oi 3, .oi 8, .bool true), (9, .oi 4, .int .i64 0, .bool false), (0, .oi 3, .int .i64 0, .oi 3)]
  ibok := ibS h1 h2 h7 h8 h9 h10
  ic := [(.i32, .oi 0, .oi 5), (.i64, .oi 5, .oi 0), (.i32, .oi 6, .oi 7), (.i64, .oi 7, .oi 6), (.i32, .oi 9, .oi 10), (.i64, .oi 10, .oi 9)]
  icok := icS h1 h2 h7 h8 h9 h10
  vl := [⟨3, 1, 1, 0, [(pN 20005)]⟩, ⟨2, 1, 7, 4, [z1]⟩, ⟨2, 1, 7, 3, [z0]⟩, ⟨0, 1, 1, 0, [(oN 0)]⟩, ⟨1, 1, 1, 0, [bF]⟩, ⟨2, 1, 7, 6, [z0]⟩, ⟨2, 1, 7, 5, [z2]⟩, ⟨7, 1, 7, 6, [z1]⟩, ⟨5, 2, 1, 0, [(oN 0)]⟩, ⟨6, 2, 1, 0, [bF]⟩, ⟨9, 1, 7, 4, [z1]⟩, ⟨9, 1, 7, 3, [z0]⟩, ⟨5, 1, 1, 0, [(oN 0)]⟩, ⟨6, 1, 1, 0, [bF]⟩, ⟨9, 1, 7, 6, [z0]⟩, ⟨9, 1, 7, 5, [z2]⟩, ⟨11, 1, 7, 6, [z1]⟩, ⟨11, 1, 7, 5, [z2]⟩, ⟨15, 1, 7, 6, [z2]⟩, ⟨13, 3, 1, 0, [z1]⟩, ⟨14, 3, 1, 0, [bF]⟩, ⟨13, 2, 1, 0, [(oN 0)]⟩, ⟨14, 2, 1, 0, [bF]⟩, ⟨16, 1, 7, 6, [z0]⟩, ⟨16, 1, 7, 5, [z2]⟩, ⟨19, 1, 7, 6, [z1]⟩, ⟨18, 2, 1, 0, [(oN 6)]⟩, ⟨21, 2, 7, 4, [z1]⟩, ⟨21, 2, 7, 3, [(oN 2)]⟩, ⟨23, 2, 1, 0, [(pN 20279)]⟩, ⟨21, 2, 7, 6, [z0]⟩, ⟨21, 2, 7, 5, [z2]⟩, ⟨26, 2, 7, 6, [z1]⟩, ⟨25, 3, 1, 0, [(oN 6)]⟩, ⟨28, 2, 7, 4, [z1]⟩, ⟨28, 2, 7, 3, [(oN 2)]⟩, ⟨25, 2, 1, 0, [(oN 6)]⟩, ⟨28, 2, 7, 6, [z0]⟩, ⟨28, 2, 7, 5, [z2]⟩, ⟨30, 2, 7, 6, [z1]⟩, ⟨30, 2, 7, 5, [z2]⟩, ⟨34, 2, 7, 6, [z2]⟩, ⟨32, 4, 1, 0, [z1]⟩, ⟨33, 4, 1, 0, [bF]⟩, ⟨32, 3, 1, 0, [(oN 6)]⟩, ⟨33, 3, 1, 0, [bF]⟩, ⟨35, 2, 7, 6, [z0]⟩, ⟨35, 2, 7, 5, [z2]⟩, ⟨38, 2, 7, 6, [z1]⟩, ⟨37, 3, 1, 0, [(oN 9)]⟩, ⟨40, 3, 7, 4, [z1]⟩, ⟨40, 3, 7, 3, [(oN 3)]⟩]
  vlok := vlS h1 h2 h7 h8 h9 h10
  vs := [⟨2, 1, 7, 2, [z0], 2⟩, ⟨2, 1, 7, 6, [z1], 4⟩, ⟨4, 1, 7, 2, [z1], 7⟩, ⟨7, 1, 7, 6, [z0], 8⟩, ⟨8, 1, 7, 2, [(iN 6)], 9⟩, ⟨9, 1, 7, 6, [z1], 10⟩, ⟨10, 1, 7, 2, [(iN 7)], 11⟩, ⟨11, 1, 7, 6, [z2], 12⟩, ⟨12, 1, 7, 2, [(iN 8)], 15⟩, ⟨15, 1, 7, 6, [z0], 16⟩, ⟨16, 1, 7, 6, [z1], 17⟩, ⟨17, 1, 7, 2, [(iN 9)], 19⟩, ⟨19, 1, 7, 6, [z0], 20⟩, ⟨22, 2, 1, 0, [(oN 6)], 18⟩, ⟨6, 2, 1, 0, [bF], 6⟩, ⟨21, 2, 7, 2, [z0], 21⟩, ⟨21, 2, 7, 6, [z1], 24⟩, ⟨24, 2, 7, 2, [z1], 26⟩, ⟨26, 2, 7, 6, [z0], 27⟩, ⟨27, 2, 7, 2, [(iN 6)], 28⟩, ⟨28, 2, 7, 6, [z1], 29⟩, ⟨29, 2, 7, 2, [(iN 7)], 30⟩, ⟨30, 2, 7, 6, [z2], 31⟩, ⟨31, 2, 7, 2, [(iN 8)], 34⟩, ⟨34, 2, 7, 6, [z0], 35⟩, ⟨35, 2, 7, 6, [z1], 36⟩, ⟨36, 2, 7, 2, [(iN 9)], 38⟩, ⟨38, 2, 7, 6, [z0], 39⟩, ⟨41, 3, 1, 0, [(oN 9)], 37⟩, ⟨14, 3, 1, 0, [bF], 14⟩]
  vsok := vsS h1 h2 h7 h8 h9 h10
  va := [⟨0, 2, 1, [(oN 0)], 5, 3⟩, ⟨1, 2, 1, [bF], 6, 3⟩, ⟨5, 2, 1, [(oN 0)], 5, 3⟩, ⟨6, 2, 1, [bF], 6, 3⟩, ⟨5, 3, 1, [z1], 13, 4⟩, ⟨6, 3, 1, [bF], 14, 4⟩, ⟨13, 2, 1, [(oN 6)], 18, 3⟩, ⟨14, 2, 1, [bF], 6, 3⟩, ⟨20, 2, 7, [z0, z1, z0, (oN 2), z1, z2, z0], 21, 3⟩, ⟨18, 2, 1, [z0], 22, 3⟩, ⟨3, 2, 1, [(pN 20279)], 23, 3⟩, ⟨18, 3, 1, [(oN 6)], 25, 4⟩, ⟨25, 3, 1, [(oN 6)], 25, 4⟩, ⟨14, 3, 1, [bF], 14, 4⟩, ⟨25, 4, 1, [z1], 32, 8⟩, ⟨14, 4, 1, [bF], 33, 8⟩, ⟨32, 3, 1, [(oN 9)], 37, 4⟩, ⟨33, 3, 1, [bF], 14, 4⟩, ⟨39, 3, 7, [z0, z0, z0, (oN 3), z1, z2, z0], 40, 4⟩, ⟨37, 3, 1, [z0], 41, 4⟩, ⟨23, 3, 1, [(pN 20551)], 42, 4⟩]
  vaok := vaS h1 h2 h7 h8 h9 h10
  vc := [(0, 1)]
  vcok := (allCons rfl allNil)
noncomputable abbrev rl_goS : List (Nat × Nat) := [(20000, 20000), (20001, 20549), (20002, 20550), (20003, 20548), (20004, 20553), (20005, 20551), (20006, 20279), (20007, 20005)]
noncomputable abbrev bs_goS : BS := [(7168, 7168, (.map [(tx17, (pN 14062), 0)] 1)), (7169, 7169, kb0), (7170, 7170, kb1), (9584, 9584, kb2), (10426, 10426, (.map [(tx17, z0, 0)] 1)), (10428, 10428, kb3), (10429, 10429, kb4), (13769, 13769, (.cells 4 false [] (T.ofList 0 .leaf [(.ov 20001 0 1), (.ov 20002 0 1), (.ov 20003 0 7), (iN 21)]))), (13770, 13770, kb6), (13771, 13771, (.map [(tx17, z0, 0)] 1)), (13772, 13772, (.map [(tx32, (iN 6), 0), (tx38, (iN 6), 1)] 2)), (13773, 13773, (.cells 32 false [] (T.ofList 0 .leaf [(pN 7170), (pN 10428), (pN 10423), (pN 10425), (pN 10429), (pN 13769), (.ov 20004 0 1), (.map 13770), (.map 13771), .nils, z1, (iN 3), (iN 6), z0, .nilp, bT, (iN 5000), (iN 12), z0, z1, z0, z0, (uN 0), z0, tx6, tx6, bF, z0, .nils, z0, z0, (.map 13772)]))), (14062, 14062, kb9), (14064, 14064, kb10), (14502, 14502, kb11), (14826, 14826, kb12), (14870, 14870, kb13), (15194, 15194, kb14), (15200, 15200, kb15), (16578, 16578, kb17), (16583, 16583, kb18), (20000, 20000, kb16), (20001, 20549, (.vec 0)), (20002, 20550, (.vec 1)), (20003, 20548, (.vec 2)), (20004, 20553, (.vec 3)), (20005, 20551, kb19), (20006, 20279, kb24), (20007, 20005, kb23)]
noncomputable abbrev ip_goS : IP := [(.oi 4, 0), (.oi 0, 1), (.oi 6, 2), (.oi 9, 3), (.oi 2, 4), (.oi 3, 5)]
theorem bq_goS : hOf 20010 bs_goS = hOf 20010 bsE3 := hOf_congr (by kernel_rfl)
theorem goS {v : Int} {r : Int} {wd : Int} {c0 : Int} {c1 : Int} {s : Nat} {d : Nat} (h1 : 2 ≤ v) (h2 : v ≤ 200) (h7 : 0 ≤ c0) (h8 : c0 ≤ 100000) (h9 : 0 ≤ c1) (h10 : c1 ≤ 100000) {rv : Nat → Value} (hb : Base B μ 20000) {Q : Exit → Act → World → Prop} {j_ : Nat} (s_ : SB v r wd c0 c1 s d rv B w0 μ a w) (hQ : ∀ a' w', SE3 (v) (r) (wd) (c0) (c1) (s) (d) rv B w0 μ a' w' → Code.rounds Tryz.prog la Q j_ a' w') : Code.rounds Tryz.prog la Q (j_ + 12) a w := by
  have hip : IpOk ((RS (v := v) (r := r) (wd := wd) (c0 := c0) (c1 := c1) (s := s) (d := d) h1 h2 h7 h8 h9 h10).rtab rv) (PE3 (v) (r) (wd) (c0) (c1) (s) (d) rv) ip_goS := (ipCons (ipN (.i64, ((0 + 3 : Nat) : Int)) rfl rfl) (ipCons (ipN (.i64, v) rfl rfl) (ipCons (ipN (.i64, v - 1) rfl rfl) (ipCons (ipN (.i64, v - 2) rfl rfl) (ipCons (ipN (.i64, ((0 + 1 : Nat) : Int)) rfl rfl) (ipCons (ipN (.i64, ((0 + 2 : Nat) : Int)) rfl rfl) ipNil))))))
  have hvp : VpOk ((RS (v := v) (r := r) (wd := wd) (c0 := c0) (c1 := c1) (s := s) (d := d) h1 h2 h7 h8 h9 h10).rtab rv) (PE3 (v) (r) (wd) (c0) (c1) (s) (d) rv) ⟨20000, 20010, ofPairs rl_goS, ip_goS⟩ [(20549, .vec 37, 0), (20550, .vec 14, 1), (20548, .vec 40, 2), (20553, .vec 42, 3)] := (vpCons (vpPre (b := 0) (c := 0) (L := [(oN 0), (oN 6), (oN 9)]) (L' := [(oN 1), (oN 2), (oN 3)]) (i := 37) (i' := 0) hip rfl rfl rfl (Nat.add_le_add_left (by decide) _) (by kernel_rfl))
    (vpCons (vpPre (b := 0) (c := 1) (L := [bF, bF, bF]) (L' := [bF, bF, bF]) (i := 14) (i' := 1) hip rfl rfl rfl (Nat.add_le_add_left (by decide) _) (by kernel_rfl))
    (vpCons (vpPre (b := 0) (c := 2) (L := [z0, z0, (iN 9), z0, z1, z2, z0, z0, z1, (iN 9), (oN 2), z1, z2, z0, z0, z0, z0, (oN 3), z1, z2, z0]) (L' := [z0, z0, (iN 9), z0, z1, z2, z0, z0, z1, (iN 9), (oN 4), z1, z2, z0, z0, z0, z0, (oN 5), z1, z2, z0]) (i := 40) (i' := 2) hip rfl rfl rfl (Nat.add_le_add_left (by decide) _) (by kernel_rfl))
    (vpCons (vpPre (b := 0) (c := 3) (L := [(pN 20005), (pN 20279), (pN 20551)]) (L' := [(pN 20007), (pN 20006), (pN 20005)]) (i := 42) (i' := 3) hip rfl rfl rfl (Nat.add_le_add_left (by decide) _) (by kernel_rfl))
    vpNil))))
  exact stepsTo_sound (T := ((RS (v := v) (r := r) (wd := wd) (c0 := c0) (c1 := c1) (s := s) (d := d) h1 h2 h7 h8 h9 h10).rtab rv)) (T' := (PE3 (v) (r) (wd) (c0) (c1) (s) (d) rv)) (K := Hand.none) (m := 5000) mixed (@HandOk.none ((RS (v := v) (r := r) (wd := wd) (c0 := c0) (c1 := c1) (s := s) (d := d) h1 h2 h7 h8 h9 h10).rtab rv) Tryz.prog) (C := ⟨20000, 20010, ofPairs rl_goS, ip_goS⟩) (ex := .normal) (rl := rl_goS) (vp := [(20549, .vec 37, 0), (20550, .vec 14, 1), (20548, .vec 40, 2), (20553, .vec 42, 3)]) (fs := fsR) (bs := bs_goS)
    hb (by decide) rfl (by kernel_rfl) hip hvp (glNone rfl rfl) (by as_aux_lemma => kernel_rfl) (St.same (VRows.rsame _ _ _) s_) (fun a' w' q => hQ a' w' (by rw [bq_goS] at q; exact q))
def HidS (v r wd c0 c1 : Int) (s d : Nat) (rv : Nat → Value) (B : Kp) (w0 : World) (μ0 : M) (w : World) (rv' : Nat → Value) (E : Nat → Prop) : Prop :=
  ∃ (μ : M) (lf : X.Loc) (LL : Nat → X.Loc), Ext μ0 μ ∧ @HR (PE3 v r wd c0 c1 s d rv) B w0 μ (hOf 20010 bsE3) w ∧ μ 20007 = some lf ∧ E = (fun j => j = lf.block) ∧ rv' = snap w LL ∧ μ 20001 = some (LL 0) ∧ μ 20002 = some (LL 1) ∧ μ 20003 = some (LL 2) ∧ μ 20004 = some (LL 3)
noncomputable abbrev rl_hS : List (Nat × Nat) := [(20000, 20000), (20001, 20001), (20002, 20002), (20003, 20003), (20004, 20004), (20005, 20005), (20006, 20006)]
noncomputable abbrev ip_hS : IP := [(.oi 0, 0), (.oi 0, 1), (.int .i64 21, 2), (.int .i64 6, 3), (.int .i64 6, 4), (.int .i64 12, 5), (.oi 2, 6), (.oi 3, 7), (.oi 4, 8), (.oi 5, 9)]
theorem hideS {v r wd c0 c1 : Int} {s d : Nat} {rv : Nat → Value} (hb : Base B μ0 20000) (s_ : SE3 v r wd c0 c1 s d rv B w0 μ0 a w) : ∃ rv' E, HidS v r wd c0 c1 s d rv B w0 μ0 w rv' E ∧ SE21 (v - 1) (6) (14) (6) (0) (1) (1) rv' (B.also E) w μ0 a w := by
  obtain ⟨μ, hx, f, r_⟩ := s_
  have g := fun x b h => @HR.blk (PE3 v r wd c0 c1 s d rv) B w0 μ (hOf 20010 bsE3) w r_ x b h
  obtain ⟨l0, m0, _⟩ := g 20001 (.vec 0) (by kernel_rfl)
  obtain ⟨l1, m1, _⟩ := g 20002 (.vec 1) (by kernel_rfl)
  obtain ⟨l2, m2, _⟩ := g 20003 (.vec 2) (by kernel_rfl)
  obtain ⟨l3, m3, _⟩ := g 20004 (.vec 3) (by kernel_rfl)
  obtain ⟨lf, mf, _⟩ := g 20007 kb23 (by kernel_rfl)
  let LL : Nat → X.Loc := fun c => match c with | 0 => l0 | 1 => l1 | 2 => l2 | _ => l3
  refine ⟨snap w LL, fun j => j = lf.block, ⟨μ, lf, LL, hx, r_, mf, rfl, rfl, m0, m1, m2, m3⟩, ?_⟩
  have hip : IpOk (PE3 v r wd c0 c1 s d rv) (PE21 (v - 1) (6) (14) (6) (0) (1) (1) (snap w LL)) ip_hS := (ipCons (ipN (.i64, ((0 + 3 : Nat) : Int)) rfl (show (IntKind.i64, ((1 + 2 : Nat) : Int)) = (IntKind.i64, ((0 + 3 : Nat) : Int)) from Prod.ext rfl (show (((1 + 2 : Nat) : Int) : Int) = ((0 + 3 : Nat) : Int) by omega))) (ipCons (ipN (.i64, ((0 + 3 : Nat) : Int)) rfl (show (IntKind.i64, ((1 + 2 : Nat) : Int)) = (IntKind.i64, ((0 + 3 : Nat) : Int)) from Prod.ext rfl (show (((1 + 2 : Nat) : Int) : Int) = ((0 + 3 : Nat) : Int) by omega))) (ipCons (ipK (show (IntKind.i64, 14 + 7) = (IntKind.i64, 21) from Prod.ext rfl (show (14 + 7 : Int) = 21 by omega))) (ipCons (ipK (show (IntKind.i64, 6) = (IntKind.i64, 6) from Prod.ext rfl (show (6 : Int) = 6 by omega))) (ipCons (ipK (show (IntKind.i64, 0 + 6) = (IntKind.i64, 6) from Prod.ext rfl (show (0 + 6 : Int) = 6 by omega))) (ipCons (ipK (show (IntKind.i64, 6 + 6) = (IntKind.i64, 12) from Prod.ext rfl (show (6 + 6 : Int) = 12 by omega))) (ipCons (ipN (.i64, v - 1) rfl (show (IntKind.i64, (v - 1)) = (IntKind.i64, v - 1) from Prod.ext rfl (show ((v - 1) : Int) = v - 1 by omega))) (ipCons (ipN (.i64, v - 2) rfl (show (IntKind.i64, (v - 1) - 1) = (IntKind.i64, v - 2) from Prod.ext rfl (show ((v - 1) - 1 : Int) = v - 2 by omega))) (ipCons (ipN (.i64, ((0 + 1 : Nat) : Int)) rfl (show (IntKind.i64, ((1 : Nat) : Int)) = (IntKind.i64, ((0 + 1 : Nat) : Int)) from Prod.ext rfl (show (((1 : Nat) : Int) : Int) = ((0 + 1 : Nat) : Int) by omega))) (ipCons (ipN (.i64, ((0 + 2 : Nat) : Int)) rfl (show (IntKind.i64, ((1 + 1 : Nat) : Int)) = (IntKind.i64, ((0 + 2 : Nat) : Int)) from Prod.ext rfl (show (((1 + 1 : Nat) : Int) : Int) = ((0 + 2 : Nat) : Int) by omega))) ipNil))))))))))
  have hvp : ∀ p ∈ ([(20001, .vec 0, 0), (20002, .vec 1, 1), (20003, .vec 2, 2), (20004, .vec 3, 3)] : VP), own p.2.1 = true ∧ ∀ l, μ p.1 = some l → @brel (PE3 v r wd c0 c1 s d rv) μ p.2.1 l w → @brel (PE21 (v - 1) (6) (14) (6) (0) (1) (1) (snap w LL)) (ren 20000 (ofPairs rl_hS) μ) (.vec p.2.2) l w :=
    (allCons ⟨rfl, fun l hl hb_ => (by
    rw [m0] at hl; cases hl
    exact vec_hide (T := (PE3 v r wd c0 c1 s d rv)) (T' := (PE21 (v - 1) (6) (14) (6) (0) (1) (1) (snap w LL))) (C := ⟨20000, 20010, ofPairs rl_hS, ip_hS⟩) (i := 0) (i' := 0) hip (c := 0) (L1 := [(oN 1)]) (L2 := [(oN 2), (oN 3)]) (LL := LL) (by decide) rfl rfl (by decide) rfl rfl (Nat.le_refl _) (by kernel_rfl) hb_)⟩
    (allCons ⟨rfl, fun l hl hb_ => (by
    rw [m1] at hl; cases hl
    exact vec_hide (T := (PE3 v r wd c0 c1 s d rv)) (T' := (PE21 (v - 1) (6) (14) (6) (0) (1) (1) (snap w LL))) (C := ⟨20000, 20010, ofPairs rl_hS, ip_hS⟩) (i := 1) (i' := 1) hip (c := 1) (L1 := [bF]) (L2 := [bF, bF]) (LL := LL) (by decide) rfl rfl (by decide) rfl rfl (Nat.le_refl _) (by kernel_rfl) hb_)⟩
    (allCons ⟨rfl, fun l hl hb_ => (by
    rw [m2] at hl; cases hl
    exact vec_hide (T := (PE3 v r wd c0 c1 s d rv)) (T' := (PE21 (v - 1) (6) (14) (6) (0) (1) (1) (snap w LL))) (C := ⟨20000, 20010, ofPairs rl_hS, ip_hS⟩) (i := 2) (i' := 2) hip (c := 2) (L1 := [z0, z0, (iN 9), z0, z1, z2, z0]) (L2 := [z0, z1, (iN 9), (oN 4), z1, z2, z0, z0, z0, z0, (oN 5), z1, z2, z0]) (LL := LL) (by decide) rfl rfl (by decide) rfl rfl (Nat.le_refl _) (by kernel_rfl) hb_)⟩
    (allCons ⟨rfl, fun l hl hb_ => (by
    rw [m3] at hl; cases hl
    exact vec_hide (T := (PE3 v r wd c0 c1 s d rv)) (T' := (PE21 (v - 1) (6) (14) (6) (0) (1) (1) (snap w LL))) (C := ⟨20000, 20010, ofPairs rl_hS, ip_hS⟩) (i := 3) (i' := 3) hip (c := 3) (L1 := [(pN 20007)]) (L2 := [(pN 20006), (pN 20005)]) (LL := LL) (by decide) rfl rfl (by decide) rfl rfl (Nat.le_refl _) (by kernel_rfl) hb_)⟩
    allNil))))
  obtain ⟨q1, q2, q3⟩ := HR.weakAt (T := (PE3 v r wd c0 c1 s d rv)) (T' := (PE21 (v - 1) (6) (14) (6) (0) (1) (1) (snap w LL))) (C := ⟨20000, 20010, ofPairs rl_hS, ip_hS⟩) (rl := rl_hS) hb (by decide) rfl (by kernel_rfl) hip (vp := [(20001, .vec 0, 0), (20002, .vec 1, 1), (20003, .vec 2, 2), (20004, .vec 3, 3)]) hvp (fs := fsR) (bs := bsE21) (E := fun j => j = lf.block)
    (aside_of (x := 20007) r_ (by kernel_rfl : _ = some kb23) rfl mf (by decide)) (by kernel_rfl) (by kernel_rfl) hx f r_ (fun _ => glNone rfl rfl)
  exact ⟨_, q1, q2, q3⟩
noncomputable abbrev rl_uS : List (Nat × Nat) := [(20000, 20000), (20001, 20001), (20002, 20002), (20003, 20003), (20004, 20004), (20005, 20005), (20010, 20010)]
noncomputable abbrev ip_uS : IP := [(.oi 0, 10), (.oi 1, 11), (.oi 2, 4), (.oi 3, 5), (.oi 4, 6), (.oi 5, 3), (.oi 6, 1), (.oi 7, 2), (.oi 8, 8)]
noncomputable abbrev ip2_S : IP := [(.oi 1, 0), (.int .i64 0, 7)]
theorem unhideS {v r wd c0 c1 u res r1 w1_ b0 b1 : Int} {s d : Nat} {rv rv' : Nat → Value} {E : Nat → Prop} (hM : ∃ l, μ0 14062 = some l) (hb : Base B μ0 20000) (hd : HidS v r wd c0 c1 s d rv B w0 μ0 w rv' E)
    (s_ : SR112 u res r1 w1_ b0 b1 (0 + 1) (0 + 1) rv' (B.also E) w μ0 a w1) : SC012 v u res r1 w1_ b0 b1 0 0 rv B w0 μ0 a w1 := by
  letI : Tab := (PR112 u res r1 w1_ b0 b1 (0 + 1) (0 + 1) rv')
  obtain ⟨μ, lf, LL, hx, r_, mf, hE, hrv, m0, m1, m2, m3⟩ := hd
  obtain ⟨μ1, hx1, f1, r1_⟩ := s_
  have g := fun x b h => @HR.blk (PE3 v r wd c0 c1 s d rv) B w0 μ (hOf 20010 bsE3) w r_ x b h
  obtain ⟨l0, k0, _, _, b0_⟩ := g 20001 (.vec 0) (by kernel_rfl)
  obtain ⟨l1, k1, _, _, b1_⟩ := g 20002 (.vec 1) (by kernel_rfl)
  obtain ⟨l2, k2, _, _, b2_⟩ := g 20003 (.vec 2) (by kernel_rfl)
  obtain ⟨l3, k3, _, _, b3_⟩ := g 20004 (.vec 3) (by kernel_rfl)
  obtain ⟨lf2, kf, nf, _, bf⟩ := g 20007 kb23 (by kernel_rfl)
  rw [m0] at k0; cases k0
  rw [m1] at k1; cases k1
  rw [m2] at k2; cases k2
  rw [m3] at k3; cases k3
  rw [mf] at kf; cases kf
  have q0 := vec_was (b := 0) (c := 0) (L := [(oN 1), (oN 2), (oN 3)]) (LL := LL) (by decide) rfl rfl b0_
  have q1 := vec_was (b := 0) (c := 1) (L := [bF, bF, bF]) (LL := LL) (by decide) rfl rfl b1_
  have q2 := vec_was (b := 0) (c := 2) (L := [z0, z0, (iN 9), z0, z1, z2, z0, z0, z1, (iN 9), (oN 4), z1, z2, z0, z0, z0, z0, (oN 5), z1, z2, z0]) (LL := LL) (by decide) rfl rfl b2_
  have q3 := vec_was (b := 0) (c := 3) (L := [(pN 20007), (pN 20006), (pN 20005)]) (LL := LL) (by decide) rfl rfl b3_
  have hEl : E lf.block := by rw [hE]
  have hext : Ext μ1 (upm μ1 20010 lf) := Ext.upm _ (@HR.fresh (PR112 u res r1 w1_ b0 b1 (0 + 1) (0 + 1) rv') _ _ _ _ _ r1_ 20010 (by rw [hOf_next]; exact Nat.le_refl _)).2
  have hbf : @brel (PR112 u res r1 w1_ b0 b1 (0 + 1) (0 + 1) rv') (upm μ1 20010 lf) kb23 lf w1 := brel_cells bf ((@HR.below (PR112 u res r1 w1_ b0 b1 (0 + 1) (0 + 1) rv') _ _ _ _ _ r1_).block _ (.inr hEl)) (fun i x hi hx_ y hy => by
    have h1 := cellOf_mem (L := [z0, z2, (pN 14062), z0, (iN 9), .nilp]) (by decide) hx_
    simp only [List.mem_cons, List.not_mem_nil, or_false] at h1
    obtain ⟨lm, hlm⟩ := hM
    rcases h1 with rfl | rfl | rfl | rfl | rfl | rfl <;> simp only [vrel] at hy ⊢ <;> first | exact hy | (obtain ⟨l5, h6, h7⟩ := hy; rw [hx _ _ hlm] at h6; cases h6; exact ⟨lm, hext _ _ (hx1 _ _ hlm), h7⟩))
  have r2 := HR.addBack (T1 := (PR112 u res r1 w1_ b0 b1 (0 + 1) (0 + 1) rv')) r_ (nf rfl) rfl hEl r1_ (by rw [hOf_next]; decide) (by rw [hOf_next]; exact hbf) (glNone rfl rfl)
  rw [hOf_next] at r2
  have hip : IpOk (PR112 u res r1 w1_ b0 b1 (0 + 1) (0 + 1) rv') (PC012 v u res r1 w1_ b0 b1 0 0 rv) ip_uS := (ipCons (ipN (.i64, (((0 + 1) + 2 : Nat) : Int)) rfl (show (IntKind.i64, ((0 + 3 : Nat) : Int)) = (IntKind.i64, (((0 + 1) + 2 : Nat) : Int)) from Prod.ext rfl (show (((0 + 3 : Nat) : Int) : Int) = (((0 + 1) + 2 : Nat) : Int) by omega))) (ipCons (ipN (.i64, (((0 + 1) + 1 : Nat) : Int)) rfl (show (IntKind.i64, ((0 + 2 : Nat) : Int)) = (IntKind.i64, (((0 + 1) + 1 : Nat) : Int)) from Prod.ext rfl (show (((0 + 2 : Nat) : Int) : Int) = (((0 + 1) + 1 : Nat) : Int) by omega))) (ipCons (ipN (.i64, w1_) rfl rfl) (ipCons (ipN (.i64, b0) rfl rfl) (ipCons (ipN (.i64, b1) rfl rfl) (ipCons (ipN (.i64, r1) rfl rfl) (ipCons (ipN (.i64, u) rfl rfl) (ipCons (ipN (.i64, res) rfl rfl) (ipCons (ipN (.i64, (((0 + 1) : Nat) : Int)) rfl (show (IntKind.i64, ((0 + 1 : Nat) : Int)) = (IntKind.i64, (((0 + 1) : Nat) : Int)) from Prod.ext rfl (show (((0 + 1 : Nat) : Int) : Int) = (((0 + 1) : Nat) : Int) by omega))) ipNil)))))))))
  have hip2 : IpOk (PE3 v r wd c0 c1 s d rv) (PC012 v u res r1 w1_ b0 b1 0 0 rv) ip2_S := (ipCons (ipN (.i64, v) rfl rfl) (ipCons (ipK (show (IntKind.i64, ((0 : Nat) : Int)) = (IntKind.i64, 0) from Prod.ext rfl (show (((0 : Nat) : Int) : Int) = 0 by omega))) ipNil))
  have hvp : ∀ p ∈ ([(20001, .vec 0, 0), (20002, .vec 1, 1), (20003, .vec 2, 2), (20004, .vec 3, 3)] : VP), own p.2.1 = true ∧ ∀ l, (upm μ1 20010 lf) p.1 = some l → @brel (PR112 u res r1 w1_ b0 b1 (0 + 1) (0 + 1) rv') (upm μ1 20010 lf) p.2.1 l w1 → @brel (PC012 v u res r1 w1_ b0 b1 0 0 rv) (ren 20000 (ofPairs rl_uS) (upm μ1 20010 lf)) (.vec p.2.2) l w1 :=
    (allCons ⟨rfl, fun l hl hb_ => vec_unhide (T1 := (PR112 u res r1 w1_ b0 b1 (0 + 1) (0 + 1) rv')) (T2 := (PC012 v u res r1 w1_ b0 b1 0 0 rv)) (C := ⟨20000, 20011, ofPairs rl_uS, ip_uS⟩) (i1 := 0) (i2 := 0) hip (b := 0) (c := 0) (n := 1) (L2 := [(oN 6), (oN 7)]) (L1' := [(oN 0)]) (L2' := [(oN 1), (oN 2)]) rfl rfl rfl (fun m hm => (by show rv' _ = rv _; rw [hrv]; exact q0.1 m hm)) (by rw [show ((PR112 u res r1 w1_ b0 b1 (0 + 1) (0 + 1) rv')).rv = snap w LL from hrv]; exact fun m x hx => (by
      obtain ⟨x0, k1, k2⟩ := cvL_get (C := ⟨20000, 20011, ofPairs [], ip2_S⟩) (l := [(oN 1), (oN 2), (oN 3)]) (by kernel_rfl) m x hx
      exact @vrel.plain (PC012 v u res r1 w1_ b0 b1 0 0 rv) _ _ x _ (List.all_eq_true.1 (by rfl : ([(oN 0)] : List AV).all plain = true) x (List.mem_of_getElem? hx)) (cvV_sound (T := (PE3 v r wd c0 c1 s d rv)) (T' := (PC012 v u res r1 w1_ b0 b1 0 0 rv)) hip2 k2 (q0.2 m x0 k1)))) (Nat.le_refl _) (by kernel_rfl) hb_⟩
    (allCons ⟨rfl, fun l hl hb_ => vec_unhide (T1 := (PR112 u res r1 w1_ b0 b1 (0 + 1) (0 + 1) rv')) (T2 := (PC012 v u res r1 w1_ b0 b1 0 0 rv)) (C := ⟨20000, 20011, ofPairs rl_uS, ip_uS⟩) (i1 := 1) (i2 := 1) hip (b := 0) (c := 1) (n := 1) (L2 := [bF, bF]) (L1' := [bF]) (L2' := [bF, bF]) rfl rfl rfl (fun m hm => (by show rv' _ = rv _; rw [hrv]; exact q1.1 m hm)) (by rw [show ((PR112 u res r1 w1_ b0 b1 (0 + 1) (0 + 1) rv')).rv = snap w LL from hrv]; exact fun m x hx => (by
      obtain ⟨x0, k1, k2⟩ := cvL_get (C := ⟨20000, 20011, ofPairs [], ip2_S⟩) (l := [bF, bF, bF]) (by kernel_rfl) m x hx
      exact @vrel.plain (PC012 v u res r1 w1_ b0 b1 0 0 rv) _ _ x _ (List.all_eq_true.1 (by rfl : ([bF] : List AV).all plain = true) x (List.mem_of_getElem? hx)) (cvV_sound (T := (PE3 v r wd c0 c1 s d rv)) (T' := (PC012 v u res r1 w1_ b0 b1 0 0 rv)) hip2 k2 (q1.2 m x0 k1)))) (Nat.le_refl _) (by kernel_rfl) hb_⟩
    (allCons ⟨rfl, fun l hl hb_ => vec_unhide (T1 := (PR112 u res r1 w1_ b0 b1 (0 + 1) (0 + 1) rv')) (T2 := (PC012 v u res r1 w1_ b0 b1 0 0 rv)) (C := ⟨20000, 20011, ofPairs rl_uS, ip_uS⟩) (i1 := 2) (i2 := 2) hip (b := 0) (c := 2) (n := 7) (L2 := [z0, z1, (iN 9), (oN 8), z1, z2, z1]) (L1' := [z0, z0, (iN 9), (oN 7), z1, z2, z0]) (L2' := [z0, z1, (iN 9), (oN 8), z1, z2, z1]) rfl rfl rfl (fun m hm => (by show rv' _ = rv _; rw [hrv]; exact q2.1 m hm)) (by rw [show ((PR112 u res r1 w1_ b0 b1 (0 + 1) (0 + 1) rv')).rv = snap w LL from hrv]; exact fun m x hx => (by
      obtain ⟨x0, k1, k2⟩ := cvL_get (C := ⟨20000, 20011, ofPairs [], ip2_S⟩) (l := [z0, z0, (iN 9), z0, z1, z2, z0, z0, z1, (iN 9), (oN 4), z1, z2, z0, z0, z0, z0, (oN 5), z1, z2, z0]) (by kernel_rfl) m x hx
      exact @vrel.plain (PC012 v u res r1 w1_ b0 b1 0 0 rv) _ _ x _ (List.all_eq_true.1 (by rfl : ([z0, z0, (iN 9), (oN 7), z1, z2, z0] : List AV).all plain = true) x (List.mem_of_getElem? hx)) (cvV_sound (T := (PE3 v r wd c0 c1 s d rv)) (T' := (PC012 v u res r1 w1_ b0 b1 0 0 rv)) hip2 k2 (q2.2 m x0 k1)))) (Nat.le_refl _) (by kernel_rfl) hb_⟩
    (allCons ⟨rfl, fun l hl hb_ => vec_unhide (T1 := (PR112 u res r1 w1_ b0 b1 (0 + 1) (0 + 1) rv')) (T2 := (PC012 v u res r1 w1_ b0 b1 0 0 rv)) (C := ⟨20000, 20011, ofPairs rl_uS, ip_uS⟩) (i1 := 3) (i2 := 3) hip (b := 0) (c := 3) (n := 1) (L2 := [(pN 20005)]) (L1' := [(pN 20010)]) (L2' := [(pN 20005)]) rfl rfl rfl (fun m hm => (by show rv' _ = rv _; rw [hrv]; exact q3.1 m hm)) (by rw [show ((PR112 u res r1 w1_ b0 b1 (0 + 1) (0 + 1) rv')).rv = snap w LL from hrv]; exact fun m x hx => (by
      cases m with
      | succ m => simp at hx
      | zero =>
        cases hx
        have h5 := q3.2 0 (pN 20007) rfl
        simp only [vrel] at h5 ⊢
        obtain ⟨l5, h6, h7⟩ := h5
        rw [mf] at h6; cases h6
        exact ⟨lf, (by show (ofPairs rl_uS).get 20010 >>= upm μ1 20010 lf = some lf; rfl), h7⟩)) (Nat.le_refl _) (by kernel_rfl) hb_⟩
    allNil))))
  obtain ⟨p1, p2, p3⟩ := HR.weakIn (T := (PR112 u res r1 w1_ b0 b1 (0 + 1) (0 + 1) rv')) (T' := (PC012 v u res r1 w1_ b0 b1 0 0 rv)) (C := ⟨20000, 20011, ofPairs rl_uS, ip_uS⟩) (rl := rl_uS) hb (by decide) rfl (by kernel_rfl) hip (vp := [(20001, .vec 0, 0), (20002, .vec 1, 1), (20003, .vec 2, 2), (20004, .vec 3, 3)]) hvp (fs := fsR) (bs := bsC012) (by kernel_rfl) (by kernel_rfl) (hx1.trans hext) (f1.ext hext) r2 (glNone rfl rfl)
  exact ⟨_, p1, p2, p3⟩
noncomputable abbrev rl_D : List (Nat × Nat) := [(20000, 20000), (20001, 20001), (20002, 20002), (20003, 20003), (20004, 20004), (20005, 20005)]
noncomputable abbrev ip_D : IP := [(.oi 0, 7), (.oi 1, 8), (.oi 2, 3), (.oi 3, 4), (.oi 4, 5), (.oi 5, 2), (.oi 6, 0), (.oi 7, 1), (.oi 8, 6)]
theorem toD {u res r wd c0 c1 : Int} {rv : Nat → Value} (hb : Base B μ0 20000) (s_ : SR012 u res r wd c0 c1 0 0 rv B w0 μ0 a w) : SD u res r wd c0 c1 0 0 rv B w0 μ0 a w := by
  have hip : IpOk (PR012 u res r wd c0 c1 0 0 rv) (PD u res r wd c0 c1 0 0 rv) ip_D := (ipCons (ipN (.i64, ((0 + 2 : Nat) : Int)) rfl rfl) (ipCons (ipN (.i64, ((0 + 1 : Nat) : Int)) rfl rfl) (ipCons (ipN (.i64, wd) rfl rfl) (ipCons (ipN (.i64, c0) rfl rfl) (ipCons (ipN (.i64, c1) rfl rfl) (ipCons (ipN (.i64, r) rfl rfl) (ipCons (ipN (.i64, u) rfl rfl) (ipCons (ipN (.i64, res) rfl rfl) (ipCons (ipN (.i64, ((0 : Nat) : Int)) rfl rfl) ipNil)))))))))
  have hvp : VpOk (PR012 u res r wd c0 c1 0 0 rv) (PD u res r wd c0 c1 0 0 rv) ⟨20000, 20010, ofPairs rl_D, ip_D⟩ [(20001, .vec 0, 0), (20002, .vec 1, 1), (20003, .vec 2, 2), (20004, .vec 3, 3)] := (vpCons (vpPre (b := 0) (c := 0) (L := [(oN 6), (oN 7)]) (L' := [(oN 0), (oN 1)]) (i := 0) (i' := 0) hip rfl rfl rfl (Nat.add_le_add_left (by decide) _) (by kernel_rfl))
    (vpCons (vpPre (b := 0) (c := 1) (L := [bF, bF]) (L' := [bF, bF]) (i := 1) (i' := 1) hip rfl rfl rfl (Nat.add_le_add_left (by decide) _) (by kernel_rfl))
    (vpCons (vpPre (b := 0) (c := 2) (L := [z0, z0, (iN 9), (oN 8), z1, z2, z1]) (L' := [z0, z0, (iN 9), (oN 6), z1, z2, z1]) (i := 2) (i' := 2) hip rfl rfl rfl (Nat.add_le_add_left (by decide) _) (by kernel_rfl))
    (vpCons (vpPre (b := 0) (c := 3) (L := [(pN 20005)]) (L' := [(pN 20005)]) (i := 3) (i' := 3) hip rfl rfl rfl (Nat.add_le_add_left (by decide) _) (by kernel_rfl))
    vpNil))))
  exact St.weak (T := (PR012 u res r wd c0 c1 0 0 rv)) (T' := (PD u res r wd c0 c1 0 0 rv)) (C := ⟨20000, 20010, ofPairs rl_D, ip_D⟩) hb (by decide) (rl := rl_D) rfl (by kernel_rfl) hip hvp (glNone rfl rfl) (fs := fsR) (bs := bsD) (by kernel_rfl) (by kernel_rfl) s_
theorem runS {rv : Nat → Value} {Q : Exit → Act → World → Prop} {j : Nat} {v r wd c0 c1 : Int} {s d : Nat} {a : Act} {w : World} (n : Nat) (hn : n ≤ 198) (hb : Base B μ 20000) (hM : ∃ l, μ 14062 = some l) (hv : v = n + 2) (g0 : 0 ≤ c0) (g1 : c0 ≤ 90000) (g2 : 0 ≤ c1) (g3 : c1 ≤ 90000)
    (s_ : SB v r wd c0 c1 s d rv B w0 μ a w)
    (kD : ∀ (u res' r' wd' c0' c1' : Int) (a' : Act) (w' : World), res' = rE n true → r' = 17 + 7 * (n : Int) → wd' = 7 → c0' = 6 + (kE n true + 1) → c1' = 6 + (kE n false + 1) → SD u res' r' wd' c0' c1' 0 0 rv B w0 μ a' w' → Code.rounds Tryz.prog la Q j a' w') :
    Code.rounds Tryz.prog la Q (j + 1 + 1 + (3 + 7 * n) + 12) a w := by
  refine goS (by omega) (by omega) (by omega) (by omega) (by omega) (by omega) hb s_ (fun a1 w1 q1 => ?_)
  obtain ⟨rv1, E1, hid1, s1⟩ := hideS hb q1
  have hb1 : Base (B.also E1) μ 20000 := ⟨hb.names, hb.res⟩
  obtain ⟨rv2, E2, hid2, s2⟩ := hide1 hb1 s1
  have hb2 : Base ((B.also E1).also E2) μ 20000 := ⟨hb1.names, hb1.res⟩
  have hr := rE_bd n true
  have g4 := kE_bd n true
  have g5 := kE_bd n false
  refine (calls_ok n (by omega)).1 hb2 hM (by omega) (by omega) (by omega) (by omega) (by omega) (by omega) (by omega) (by omega) (by omega) (by omega) (by omega) s2 ?_ ?_
  · intro u res' r' wd' c0' c1' a2 w2 f1 f2 f3 f4 f5 q2
    refine goC15 (by omega) (by omega) (by omega) (by omega) (by omega) (by omega) (by omega) (by omega) (by omega) (by omega) (by omega) (by omega) hb1 (unhide15 hM hb1 hid2 q2) (fun a3 w3 q3 => ?_)
    exact goC012 (by omega) (by omega) (by omega) (by omega) (by omega) (by omega) (by omega) (by omega) (by omega) (by omega) (by omega) (by omega) hb (unhideS hM hb hid1 q3) (fun a4 w4 q4 => kD _ _ _ _ _ _ a4 w4 f1 (by omega) (by omega) (by omega) (by omega) (toD hb q4))
  · intro u res' r' wd' c0' c1' a2 w2 f1 f2 f3 f4 f5 q2
    refine goC112 (by omega) (by omega) (by omega) (by omega) (by omega) (by omega) (by omega) (by omega) (by omega) (by omega) (by omega) (by omega) hb1 (unhide112 hM hb1 hid2 q2) (fun a3 w3 q3 => ?_)
    exact goC012 (by omega) (by omega) (by omega) (by omega) (by omega) (by omega) (by omega) (by omega) (by omega) (by omega) (by omega) (by omega) hb (unhideS hM hb hid1 q3) (fun a4 w4 q4 => kD _ _ _ _ _ _ a4 w4 f1 (by omega) (by omega) (by omega) (by omega) (toD hb q4))
end
end Go.Proofs.YtfkfmjlppllfoaaGreatDoor.mu
