/-
  Beginning of the machine within the law TopSpeaks.
-/
import Derived.Test.YtbgkinjicnnkiaaGreatDoorSNN
import Derived.Test.YtbgkinjicnnkiaaGreatDoorXN3
import Derived.Test.YtbgkinjicnnkiaaGreatDoorSPR
import Derived.Test.YtbgkinjicnnkiaaGreatDoorSPX
import Derived.Test.YtbgkinjicnnkiaaGreatDoorProg
import Derived.KernelRfl
set_option linter.unusedSectionVars false
set_option linter.unusedVariables false
set_option maxRecDepth 1000000
set_option maxHeartbeats 0
namespace Go.Proofs.YtbgkinjicnnkiaaGreatDoor.sp
open Go.X Go.RowKit Go.Proofs.YtbgkinjicnnkiaaGreatDoor
noncomputable abbrev kd50 : Blk := (.cells 6 false [] (T.ofList 0 .leaf [z0, z2, (pN 16430), z0, (iN 14), .nilp]))
noncomputable abbrev fsB : List (Nat × AV) := [(0, .ptr 14321 0), (10, .ptr 17792 0)]
abbrev ivB (v : Int) (s : Nat) (d : Nat) (o : Nat) : Nat → IntKind × Int
  | 0 => (.i64, v)
  | 1 => (.i32, v)
  | 2 => (.i64, ((3 : Nat) : Int))
  | 3 => (.i64, ((2 : Nat) : Int))
  | _ => (.i64, 0)
abbrev vvB (s d o : Nat) : Nat → Nat → Option AV
  | 0 => pv (0) 0 [(oN 0), (iN 9), (oN 0)]
  | 1 => pv (0) 1 [bF, bT, bF]
  | 2 => pv (0) 2 [z0, z0, (iN 14), z0, z1, (iN 3), z0, z1, z1, z0, z1, z1, z2, z1]
  | 3 => pv (0) 3 [(pN 18708), (pN 21055)]
  | _ => fun _ => none
abbrev vkB (s d o : Nat) : Nat → Nat
  | 0 => pk (0) [(oN 0), (iN 9), (oN 0)]
  | 1 => pk (0) [bF, bT, bF]
  | 2 => pk (0) [z0, z0, (iN 14), z0, z1, (iN 3), z0, z1, z1, z0, z1, z1, z2, z1]
  | 3 => pk (0) [(pN 18708), (pN 21055)]
  | _ => 0
theorem vpB (s d o : Nat) : ∀ i m a, vvB s d o i m = some a → vplain a = true
  | 0, _, _, h => pv_plainB rfl h
  | 1, _, _, h => pv_plainB rfl h
  | 2, _, _, h => pv_plainB rfl h
  | 3, _, _, h => pv_plainB rfl h
  | _ + 4, _, _, h => (by cases h)
abbrev PB (v : Int) (s : Nat) (d : Nat) (o : Nat) (rv : Nat → Value) : Tab := ((bare (ivB v s d o) (vvB s d o) (vkB s d o) (vpB s d o)).rtab rv)
noncomputable abbrev bsB : BS := [(7716, 7716, kb0), (7717, 7717, kb1), (7718, 7718, kb2), (7914, 7914, kb3), (7967, 7967, kb4), (10132, 10132, kb5), (10144, 10144, kb6), (10463, 10463, kb7), (10672, 10672, kb8), (10678, 10678, kb9), (10970, 10970, (.map [(tx0, z0, 0), (tx9, z1, 1), (tx14, z2, 2)] 3)), (10971, 10971, (.cells 5 false [] (T.ofList 0 .leaf [(pN 7718), (.so 14539 0 8 1), (.so 14541 0 3 1), (.so 14538 0 3 3), (.map 10970)]))), (10972, 10972, (.map [] 0)), (10973, 10973, kb12), (10974, 10974, (.map [(tx66, z0, 0)] 1)), (10975, 10975, (.map [] 1)), (10976, 10976, (.cells 3 false [] (T.ofList 0 .leaf [(pN 7718), (.map 10974), (.map 10975)]))), (10977, 10977, kb13), (11691, 11691, kb14), (13691, 13691, (.cells 1 false [] (T.ofList 0 .leaf [bT]))), (13693, 13693, kb15), (14317, 14317, (.cells 4 false [] (T.ofList 0 .leaf [(.so 18706 0 1 1), (.so 18707 0 1 1), (.so 18705 0 1 7), (iN 8)]))), (14318, 14318, (.map [(tx66, (pN 18694), 0), (tx3, (pN 18699), 1)] 2)), (14319, 14319, (.map [(tx66, z0, 0)] 1)), (14320, 14320, (.map [] 0)), (14321, 14321, (.cells 32 false [] (T.ofList 0 .leaf [(pN 7718), (pN 10976), (pN 10971), (pN 10973), (pN 10977), (pN 14317), (.so 18710 0 1 1), (.map 14318), (.map 14319), .nils, z1, (iN 3), (iN 6), z0, .nilp, bT, (iN 2000), z0, z0, z0, z0, z0, (uN 0), z0, tx4, tx4, bF, z0, .nils, z0, z0, (.map 14320)]))), (14538, 14538, (.cells 9 true [] (T.ofList 0 .leaf [tx0, .nils, (uN 0), tx9, (.so 14440 0 1 1), (uN 0), tx14, (.so 14536 0 1 1), (uN 0)]))), (14539, 14539, (.cells 8 true [] (T.ofList 0 .leaf [(.int .u64 0), (.int .u64 0), (.int .u64 1), (.int .u64 0), (.int .u64 0), (.int .u64 2), (.int .u64 0), (.int .u64 0)]))), (14541, 14541, (.cells 3 true [] (T.ofList 0 .leaf [z0, z2, (iN 5)]))), (14616, 14616, kb21), (14618, 14618, kb22), (15654, 15654, kb23), (15674, 15674, (.cells 5 true [] (T.ofList 0 .leaf [(uN 42), (uN 183), (uN 0), (uN 6), (uN 177)]))), (15877, 15877, kb24), (16324, 16324, (.cells 3 true [] (T.ofList 0 .leaf [(iN 7), tx4, (iN 11)]))), (16327, 16327, kb25), (16333, 16333, kb26), (16430, 16430, kb27), (16432, 16432, kb28), (17419, 17419, kb29), (17785, 17785, kb30), (17792, 17792, kb31), (18694, 18694, kb32), (18699, 18699, kb33), (18705, 18705, (.cells 7 true [] (T.ofList 0 .leaf [z0, z0, z0, z0, z1, (iN 3), z0]))), (18706, 18706, (.cells 1 true [] (T.ofList 0 .leaf [(oN 0)]))), (18707, 18707, (.cells 1 true [] (T.ofList 0 .leaf [bF]))), (18708, 18708, (.cells 6 false [] (T.ofList 0 .leaf [z0, z0, (pN 16430), z0, z0, .nilp]))), (18710, 18710, (.cells 1 true [] (T.ofList 0 .leaf [(pN 18708)])))]
def SB (v : Int) (s : Nat) (d : Nat) (o : Nat) (rv : Nat → Value) (B : Kp) (w0 : World) (μ : M) (a : Act) (w : World) : Prop := St (PB v s d o rv) B w0 μ Tryz.f51.ntmps (frOf fsB) (hOf 18712 bsB) a w
abbrev ivE2s (v : Int) (s : Nat) (d : Nat) (o : Nat) : Nat → IntKind × Int
  | 0 => (.i64, ((3 : Nat) : Int))
  | 1 => (.i64, ((2 : Nat) : Int))
  | 2 => (.i64, v)
  | _ => (.i64, 0)
abbrev vvE2s (s d o : Nat) : Nat → Nat → Option AV
  | 0 => pv (0) 0 [(oN 2), (iN 9), (oN 2)]
  | 1 => pv (0) 1 [bF, bT, bF]
  | 2 => pv (0) 2 [z0, z0, (iN 14), z0, z1, (iN 3), z0, z1, z1, z0, z1, z1, z2, z1]
  | 3 => pv (0) 3 [(pN 30006), (pN 30005)]
  | _ => fun _ => none
abbrev vkE2s (s d o : Nat) : Nat → Nat
  | 0 => pk (0) [(oN 2), (iN 9), (oN 2)]
  | 1 => pk (0) [bF, bT, bF]
  | 2 => pk (0) [z0, z0, (iN 14), z0, z1, (iN 3), z0, z1, z1, z0, z1, z1, z2, z1]
  | 3 => pk (0) [(pN 30006), (pN 30005)]
  | _ => 0
theorem vpE2s (s d o : Nat) : ∀ i m a, vvE2s s d o i m = some a → vplain a = true
  | 0, _, _, h => pv_plainB rfl h
  | 1, _, _, h => pv_plainB rfl h
  | 2, _, _, h => pv_plainB rfl h
  | 3, _, _, h => pv_plainB rfl h
  | _ + 4, _, _, h => (by cases h)
abbrev PE2s (v : Int) (s : Nat) (d : Nat) (o : Nat) (rv : Nat → Value) : Tab := ((bare (ivE2s v s d o) (vvE2s s d o) (vkE2s s d o) (vpE2s s d o)).rtab rv)
noncomputable abbrev bsE2s : BS := [(7716, 7716, kb0), (7717, 7717, kb1), (7718, 7718, kb2), (7914, 7914, kb3), (7967, 7967, kb4), (10132, 10132, kb5), (10144, 10144, kb6), (10463, 10463, kb7), (10672, 10672, kb8), (10678, 10678, kb9), (10970, 10970, kb10), (10971, 10971, kb11), (10972, 10972, (.map [] 0)), (10973, 10973, kb12), (10977, 10977, kb13), (11691, 11691, kb14), (13691, 13691, (.cells 1 false [] (T.ofList 0 .leaf [bT]))), (13693, 13693, kb15), (14317, 14317, (.cells 4 false [] (T.ofList 0 .leaf [(.ov 30001 0 1), (.ov 30002 0 1), (.ov 30003 1 7), (iN 15)]))), (14318, 14318, kb17), (14319, 14319, kb18), (14320, 14320, (.map [(tx8, (iN 7), 0), (tx7, (iN 3), 1), (tx1, z1, 2)] 3)), (14321, 14321, (.cells 32 false [] (T.ofList 0 .leaf [(pN 7718), (pN 10976), (pN 10971), (pN 10973), (pN 10977), (pN 14317), (.ov 30004 1 1), (.map 14318), (.map 14319), .nils, z1, (iN 3), (iN 6), z0, .nilp, bT, (iN 2000), (iN 11), z0, z1, z0, z0, (uN 0), z0, tx4, tx4, bF, z0, .nils, z0, z0, (.map 14320)]))), (14616, 14616, kb21), (14618, 14618, kb22), (15654, 15654, kb23), (15877, 15877, kb24), (16327, 16327, kb25), (16333, 16333, kb26), (16430, 16430, kb27), (16432, 16432, kb28), (17419, 17419, kb29), (17785, 17785, kb30), (18694, 18694, kb32), (18699, 18699, kb33), (18799, 18799, kb34), (20119, 20119, (.cells 1 false [z0] (T.ofList 0 .leaf [(oN 2)]))), (20208, 20208, kb33), (20314, 20314, kb36), (20315, 20315, kb37), (20317, 20317, kb38), (30000, 30000, kb31), (30001, 30001, (.vec 0)), (30002, 30002, (.vec 1)), (30003, 30003, (.vec 2)), (30004, 30004, (.vec 3)), (30005, 30005, kb39), (30006, 30006, kd50)]
def SE2s (v : Int) (s : Nat) (d : Nat) (o : Nat) (rv : Nat → Value) (B : Kp) (w0 : World) (μ : M) (a : Act) (w : World) : Prop := St (PE2s v s d o rv) B w0 μ Tryz.f51.ntmps (frOf fsR) (hOf 30040 bsE2s) a w
abbrev ivD (x : Int) (r : Int) (wd : Int) (c0 : Int) (s : Nat) (d : Nat) (o : Nat) : Nat → IntKind × Int
  | 0 => (.i64, r)
  | 1 => (.i64, wd)
  | 2 => (.i64, c0)
  | 3 => (.i64, x)
  | 4 => (.i64, ((0 : Nat) : Int))
  | 5 => (.i64, ((0 + 1 : Nat) : Int))
  | 6 => (.i64, ((o : Nat) : Int))
  | 7 => (.i64, ((0 + 3 : Nat) : Int))
  | 8 => (.i64, ((0 + 2 : Nat) : Int))
  | 9 => (.i64, r + 1)
  | 10 => (.i64, c0 + 1)
  | 11 => (.i64, wd - 7)
  | 12 => (.i64, r + 2)
  | 13 => (.i64, r + 3)
  | 14 => (.i64, wd - 15)
  | _ => (.i64, 0)
abbrev vvD (s d o : Nat) : Nat → Nat → Option AV
  | 0 => pvg bs.outG (o) []
  | 1 => pv (0) 0 [(oN 3), (iN 9), (iN 11)]
  | 2 => pv (0) 1 [bF, bT, bT]
  | 3 => pv (0) 2 [z0, z0, (iN 14), (oN 4), z1, (iN 3), z0, z1, z1, (iN 21), (oN 5), z1, z2, z1]
  | 4 => pv (0) 3 [(pN 30040), (pN 30005)]
  | 5 => pv (0) 2 [z0, z0, (iN 14), (oN 4), z1, (iN 3), z0, z1, z1, (iN 24), (oN 5), z1, z2, z1]
  | 6 => pv (0) 2 [z0, z0, (iN 14), (oN 4), z1, (iN 3), z0, z1, z1, (iN 24), (oN 5), z1, z2, z0]
  | 7 => pv (0) 2 [z0, z0, (iN 17), (oN 4), z1, (iN 3), z0, z1, z1, (iN 24), (oN 5), z1, z2, z0]
  | 8 => pv (0) 2 [z0, z0, (iN 17), (oN 4), z1, (iN 3), z1, z1, z1, (iN 24), (oN 5), z1, z2, z0]
  | 9 => pv (0) 0 [(oN 3), z0]
  | 10 => pv (0) 1 [bF, bF]
  | 11 => pv (0) 2 [z0, z0, (iN 18), (oN 4), z1, (iN 3), z1, z1, z1, (iN 24), (oN 5), z1, z2, z0]
  | 12 => pv (0) 2 [z0, z0, (iN 18), (oN 4), z1, (iN 3), z0, z1, z1, (iN 24), (oN 5), z1, z2, z0]
  | _ => fun _ => none
abbrev vkD (s d o : Nat) : Nat → Nat
  | 0 => pk (o) []
  | 1 => pk (0) [(oN 3), (iN 9), (iN 11)]
  | 2 => pk (0) [bF, bT, bT]
  | 3 => pk (0) [z0, z0, (iN 14), (oN 4), z1, (iN 3), z0, z1, z1, (iN 21), (oN 5), z1, z2, z1]
  | 4 => pk (0) [(pN 30040), (pN 30005)]
  | 5 => pk (0) [z0, z0, (iN 14), (oN 4), z1, (iN 3), z0, z1, z1, (iN 24), (oN 5), z1, z2, z1]
  | 6 => pk (0) [z0, z0, (iN 14), (oN 4), z1, (iN 3), z0, z1, z1, (iN 24), (oN 5), z1, z2, z0]
  | 7 => pk (0) [z0, z0, (iN 17), (oN 4), z1, (iN 3), z0, z1, z1, (iN 24), (oN 5), z1, z2, z0]
  | 8 => pk (0) [z0, z0, (iN 17), (oN 4), z1, (iN 3), z1, z1, z1, (iN 24), (oN 5), z1, z2, z0]
  | 9 => pk (0) [(oN 3), z0]
  | 10 => pk (0) [bF, bF]
  | 11 => pk (0) [z0, z0, (iN 18), (oN 4), z1, (iN 3), z1, z1, z1, (iN 24), (oN 5), z1, z2, z0]
  | 12 => pk (0) [z0, z0, (iN 18), (oN 4), z1, (iN 3), z0, z1, z1, (iN 24), (oN 5), z1, z2, z0]
  | _ => 0
theorem vpD (s d o : Nat) : ∀ i m a, vvD s d o i m = some a → vplain a = true
  | 0, _, _, h => pvg_plainB bs.outG_plain rfl h
  | 1, _, _, h => pv_plainB rfl h
  | 2, _, _, h => pv_plainB rfl h
  | 3, _, _, h => pv_plainB rfl h
  | 4, _, _, h => pv_plainB rfl h
  | 5, _, _, h => pv_plainB rfl h
  | 6, _, _, h => pv_plainB rfl h
  | 7, _, _, h => pv_plainB rfl h
  | 8, _, _, h => pv_plainB rfl h
  | 9, _, _, h => pv_plainB rfl h
  | 10, _, _, h => pv_plainB rfl h
  | 11, _, _, h => pv_plainB rfl h
  | 12, _, _, h => pv_plainB rfl h
  | _ + 13, _, _, h => (by cases h)
abbrev PD (x : Int) (r : Int) (wd : Int) (c0 : Int) (s : Nat) (d : Nat) (o : Nat) (rv : Nat → Value) : Tab := ((bare (ivD x r wd c0 s d o) (vvD s d o) (vkD s d o) (vpD s d o)).rtab rv)
noncomputable abbrev bsD : BS := [(7716, 7716, kb0), (7717, 7717, kb1), (7718, 7718, kb2), (7914, 7914, kb3), (10463, 10463, kb7), (10971, 10971, kb43), (10977, 10977, (.cells 7 false [] (T.ofList 0 .leaf [(pN 10971), (pN 10973), (pN 7718), (.so 11691 0 39 3), (.ov 30020 6 1), bF, bF]))), (11691, 11691, kb14), (13691, 13691, (.cells 1 false [] (T.ofList 0 .leaf [bT]))), (13693, 13693, kb15), (14317, 14317, (.cells 4 false [] (T.ofList 0 .leaf [(.ov 30001 7 1), (.ov 30002 7 1), (.ov 30003 8 7), (oN 1)]))), (14318, 14318, kb17), (14320, 14320, kb45), (14321, 14321, (.cells 32 false [] (T.ofList 0 .leaf [(pN 7718), (pN 10976), (pN 10971), (pN 10973), (pN 10977), (pN 14317), (.ov 30004 8 1), (.map 14318), (.map 14319), .nils, z1, (iN 3), (iN 6), z0, .nilp, bT, (iN 2000), (oN 0), z0, z1, z0, z0, (uN 0), z0, tx4, tx4, bF, z0, .nils, z0, z0, (.map 14320)]))), (14616, 14616, kb21), (15877, 15877, kb24), (16327, 16327, kb25), (16333, 16333, kb26), (16430, 16430, kb27), (16432, 16432, kb28), (17419, 17419, kb29), (17785, 17785, kb30), (18694, 18694, kb32), (18699, 18699, kb33), (18799, 18799, kb34), (20208, 20208, kb33), (30000, 30000, kb31), (30001, 30001, (.vec 1)), (30002, 30002, (.vec 2)), (30003, 30003, (.vec 3)), (30004, 30004, (.vec 4)), (30005, 30005, kb46), (30020, 30020, (.vec 0)), (30021, 30021, kb47), (30022, 30022, kb48), (30023, 30023, kb49), (30040, 30040, kd50)]
def SD (x : Int) (r : Int) (wd : Int) (c0 : Int) (s : Nat) (d : Nat) (o : Nat) (rv : Nat → Value) (B : Kp) (w0 : World) (μ : M) (a : Act) (w : World) : Prop := St (PD x r wd c0 s d o rv) B w0 μ Tryz.f51.ntmps (frOf fsR) (hOf 30041 bsD) a w
end Go.Proofs.YtbgkinjicnnkiaaGreatDoor.sp
