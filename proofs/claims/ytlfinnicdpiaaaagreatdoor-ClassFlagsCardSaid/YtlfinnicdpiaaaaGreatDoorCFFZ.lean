/-
  What field gives, whatever the flags.
-/
import Derived.Test.YtlfinnicdpiaaaaGreatDoorXN3
import Derived.Test.YtlfinnicdpiaaaaGreatDoorCFB
import Derived.Test.YtlfinnicdpiaaaaGreatDoorCFF0
import Derived.Test.YtlfinnicdpiaaaaGreatDoorCFHZ
import Derived.KernelRfl
set_option linter.unusedVariables false
set_option linter.unusedSimpArgs false
set_option maxRecDepth 1000000
set_option maxHeartbeats 0
namespace Go.Proofs.YtlfinnicdpiaaaaGreatDoor.cf
open Go.X Go.RowKit
theorem field2_0_ok {m c f k : Nat} (b : Bd m c f k) (h : fieldD m c f k = 0) : @InOk Tryz.prog C_field2_0 (TB m c f k) := by
 by_cases g0 : vN f 31 = (0)
 ·by_cases g1 : acc f = true
  ·by_cases g2 : vA c 512 = (0)
   ·exact L_field2_7 b g0 g1 g2
   ·by_cases g3 : (f : Int) = (25)
    ·exact L_field2_2 b g0 g1 g2 g3
    ·exact absurd h (by unfold fieldD; rw [if_pos g0, if_pos g1, if_neg g2, if_neg g3]; decide)
  ·by_cases g2 : vA c 512 = (0)
   ·exact absurd h (by unfold fieldD; rw [if_pos g0, if_neg g1, if_pos g2]; decide)
   ·by_cases g3 : (f : Int) = (25)
    ·exact absurd h (by unfold fieldD; rw [if_pos g0, if_neg g1, if_neg g2, if_pos g3]; decide)
    ·exact absurd h (by unfold fieldD; rw [if_pos g0, if_neg g1, if_neg g2, if_neg g3]; decide)
 ·by_cases g1 : vA c 512 = (0)
  ·exact absurd h (by unfold fieldD; rw [if_neg g0, if_pos g1]; decide)
  ·by_cases g2 : (f : Int) = (25)
   ·exact absurd h (by unfold fieldD; rw [if_neg g0, if_neg g1, if_pos g2]; decide)
   ·exact absurd h (by unfold fieldD; rw [if_neg g0, if_neg g1, if_neg g2]; decide)
theorem field3_0_ok {m c f k : Nat} (b : Bd m c f k) (h : fieldD m c f k = 0) : @InOk Tryz.prog C_field3_0 (TB m c f k) := by
 by_cases g0 : vN f 31 = (0)
 ·by_cases g1 : acc f = true
  ·by_cases g2 : vA c 512 = (0)
   ·exact L_field3_8 b g0 g1 g2
   ·by_cases g3 : (f : Int) = (25)
    ·exact L_field3_3 b g0 g1 g2 g3
    ·exact absurd h (by unfold fieldD; rw [if_pos g0, if_pos g1, if_neg g2, if_neg g3]; decide)
  ·by_cases g2 : vA c 512 = (0)
   ·exact absurd h (by unfold fieldD; rw [if_pos g0, if_neg g1, if_pos g2]; decide)
   ·by_cases g3 : (f : Int) = (25)
    ·exact absurd h (by unfold fieldD; rw [if_pos g0, if_neg g1, if_neg g2, if_pos g3]; decide)
    ·exact absurd h (by unfold fieldD; rw [if_pos g0, if_neg g1, if_neg g2, if_neg g3]; decide)
 ·by_cases g1 : vA c 512 = (0)
  ·exact absurd h (by unfold fieldD; rw [if_neg g0, if_pos g1]; decide)
  ·by_cases g2 : (f : Int) = (25)
   ·exact absurd h (by unfold fieldD; rw [if_neg g0, if_neg g1, if_pos g2]; decide)
   ·exact absurd h (by unfold fieldD; rw [if_neg g0, if_neg g1, if_neg g2]; decide)
theorem field0_0_ok {m c f k : Nat} (b : Bd m c f k) (h : fieldD m c f k = 0) : @InOk Tryz.prog C_field0_0 (TB m c f k) := by
 by_cases g0 : vN f 31 = (0)
 ·by_cases g1 : acc f = true
  ·by_cases g2 : vA c 512 = (0)
   ·exact L_field0_5 b g0 g1 g2
   ·by_cases g3 : (f : Int) = (25)
    ·exact L_field0_0 b g0 g1 g2 g3
    ·exact absurd h (by unfold fieldD; rw [if_pos g0, if_pos g1, if_neg g2, if_neg g3]; decide)
  ·by_cases g2 : vA c 512 = (0)
   ·exact absurd h (by unfold fieldD; rw [if_pos g0, if_neg g1, if_pos g2]; decide)
   ·by_cases g3 : (f : Int) = (25)
    ·exact absurd h (by unfold fieldD; rw [if_pos g0, if_neg g1, if_neg g2, if_pos g3]; decide)
    ·exact absurd h (by unfold fieldD; rw [if_pos g0, if_neg g1, if_neg g2, if_neg g3]; decide)
 ·by_cases g1 : vA c 512 = (0)
  ·exact absurd h (by unfold fieldD; rw [if_neg g0, if_pos g1]; decide)
  ·by_cases g2 : (f : Int) = (25)
   ·exact absurd h (by unfold fieldD; rw [if_neg g0, if_neg g1, if_pos g2]; decide)
   ·exact absurd h (by unfold fieldD; rw [if_neg g0, if_neg g1, if_neg g2]; decide)
theorem field1_0_ok {m c f k : Nat} (b : Bd m c f k) (h : fieldD m c f k = 0) : @InOk Tryz.prog C_field1_0 (TB m c f k) := by
 by_cases g0 : vN f 31 = (0)
 ·by_cases g1 : acc f = true
  ·by_cases g2 : vA c 512 = (0)
   ·exact L_field1_6 b g0 g1 g2
   ·by_cases g3 : (f : Int) = (25)
    ·exact L_field1_1 b g0 g1 g2 g3
    ·exact absurd h (by unfold fieldD; rw [if_pos g0, if_pos g1, if_neg g2, if_neg g3]; decide)
  ·by_cases g2 : vA c 512 = (0)
   ·exact absurd h (by unfold fieldD; rw [if_pos g0, if_neg g1, if_pos g2]; decide)
   ·by_cases g3 : (f : Int) = (25)
    ·exact absurd h (by unfold fieldD; rw [if_pos g0, if_neg g1, if_neg g2, if_pos g3]; decide)
    ·exact absurd h (by unfold fieldD; rw [if_pos g0, if_neg g1, if_neg g2, if_neg g3]; decide)
 ·by_cases g1 : vA c 512 = (0)
  ·exact absurd h (by unfold fieldD; rw [if_neg g0, if_pos g1]; decide)
  ·by_cases g2 : (f : Int) = (25)
   ·exact absurd h (by unfold fieldD; rw [if_neg g0, if_neg g1, if_pos g2]; decide)
   ·exact absurd h (by unfold fieldD; rw [if_neg g0, if_neg g1, if_neg g2]; decide)
theorem field4_0_ok {m c f k : Nat} (b : Bd m c f k) (h : fieldD m c f k = 0) : @InOk Tryz.prog C_field4_0 (TB m c f k) := by
 by_cases g0 : vN f 31 = (0)
 ·by_cases g1 : acc f = true
  ·by_cases g2 : vA c 512 = (0)
   ·exact L_field4_9 b g0 g1 g2
   ·by_cases g3 : (f : Int) = (25)
    ·exact L_field4_4 b g0 g1 g2 g3
    ·exact absurd h (by unfold fieldD; rw [if_pos g0, if_pos g1, if_neg g2, if_neg g3]; decide)
  ·by_cases g2 : vA c 512 = (0)
   ·exact absurd h (by unfold fieldD; rw [if_pos g0, if_neg g1, if_pos g2]; decide)
   ·by_cases g3 : (f : Int) = (25)
    ·exact absurd h (by unfold fieldD; rw [if_pos g0, if_neg g1, if_neg g2, if_pos g3]; decide)
    ·exact absurd h (by unfold fieldD; rw [if_pos g0, if_neg g1, if_neg g2, if_neg g3]; decide)
 ·by_cases g1 : vA c 512 = (0)
  ·exact absurd h (by unfold fieldD; rw [if_neg g0, if_pos g1]; decide)
  ·by_cases g2 : (f : Int) = (25)
   ·exact absurd h (by unfold fieldD; rw [if_neg g0, if_neg g1, if_pos g2]; decide)
   ·exact absurd h (by unfold fieldD; rw [if_neg g0, if_neg g1, if_neg g2]; decide)
theorem field2_1_ok {m c f k : Nat} (b : Bd m c f k) (h : fieldD m c f k = 1) : @InOk Tryz.prog C_field2_1 (TB m c f k) := by
 by_cases g0 : vN f 31 = (0)
 ·by_cases g1 : acc f = true
  ·by_cases g2 : vA c 512 = (0)
   ·exact absurd h (by unfold fieldD; rw [if_pos g0, if_pos g1, if_pos g2]; decide)
   ·by_cases g3 : (f : Int) = (25)
    ·exact absurd h (by unfold fieldD; rw [if_pos g0, if_pos g1, if_neg g2, if_pos g3]; decide)
    ·exact L_field2_10 b g0 g1 g2 g3
  ·by_cases g2 : vA c 512 = (0)
   ·exact L_field2_26 b g0 (Bool.eq_false_iff.2 g1) g2
   ·by_cases g3 : (f : Int) = (25)
    ·exact absurd h (by unfold fieldD; rw [if_pos g0, if_neg g1, if_neg g2, if_pos g3]; decide)
    ·exact L_field2_22 b g0 (Bool.eq_false_iff.2 g1) g2 g3
 ·by_cases g1 : vA c 512 = (0)
  ·exact L_field2_14 b g0 g1
  ·by_cases g2 : (f : Int) = (25)
   ·exact absurd h (by unfold fieldD; rw [if_neg g0, if_neg g1, if_pos g2]; decide)
   ·exact L_field2_18 b g0 g1 g2
theorem field3_1_ok {m c f k : Nat} (b : Bd m c f k) (h : fieldD m c f k = 1) : @InOk Tryz.prog C_field3_1 (TB m c f k) := by
 by_cases g0 : vN f 31 = (0)
 ·by_cases g1 : acc f = true
  ·by_cases g2 : vA c 512 = (0)
   ·exact absurd h (by unfold fieldD; rw [if_pos g0, if_pos g1, if_pos g2]; decide)
   ·by_cases g3 : (f : Int) = (25)
    ·exact absurd h (by unfold fieldD; rw [if_pos g0, if_pos g1, if_neg g2, if_pos g3]; decide)
    ·exact L_field3_11 b g0 g1 g2 g3
  ·by_cases g2 : vA c 512 = (0)
   ·exact L_field3_27 b g0 (Bool.eq_false_iff.2 g1) g2
   ·by_cases g3 : (f : Int) = (25)
    ·exact absurd h (by unfold fieldD; rw [if_pos g0, if_neg g1, if_neg g2, if_pos g3]; decide)
    ·exact L_field3_23 b g0 (Bool.eq_false_iff.2 g1) g2 g3
 ·by_cases g1 : vA c 512 = (0)
  ·exact L_field3_15 b g0 g1
  ·by_cases g2 : (f : Int) = (25)
   ·exact absurd h (by unfold fieldD; rw [if_neg g0, if_neg g1, if_pos g2]; decide)
   ·exact L_field3_19 b g0 g1 g2
theorem field5_1_ok {m c f k : Nat} (b : Bd m c f k) (h : fieldD m c f k = 1) : @InOk Tryz.prog C_field5_0 (TB m c f k) := by
 by_cases g0 : vN f 31 = (0)
 ·by_cases g1 : acc f = true
  ·by_cases g2 : vA c 512 = (0)
   ·exact absurd h (by unfold fieldD; rw [if_pos g0, if_pos g1, if_pos g2]; decide)
   ·by_cases g3 : (f : Int) = (25)
    ·exact absurd h (by unfold fieldD; rw [if_pos g0, if_pos g1, if_neg g2, if_pos g3]; decide)
    ·exact L_field5_12 b g0 g1 g2 g3
  ·by_cases g2 : vA c 512 = (0)
   ·exact L_field5_28 b g0 (Bool.eq_false_iff.2 g1) g2
   ·by_cases g3 : (f : Int) = (25)
    ·exact absurd h (by unfold fieldD; rw [if_pos g0, if_neg g1, if_neg g2, if_pos g3]; decide)
    ·exact L_field5_24 b g0 (Bool.eq_false_iff.2 g1) g2 g3
 ·by_cases g1 : vA c 512 = (0)
  ·exact L_field5_16 b g0 g1
  ·by_cases g2 : (f : Int) = (25)
   ·exact absurd h (by unfold fieldD; rw [if_neg g0, if_neg g1, if_pos g2]; decide)
   ·exact L_field5_20 b g0 g1 g2
theorem field6_1_ok {m c f k : Nat} (b : Bd m c f k) (h : fieldD m c f k = 1) : @InOk Tryz.prog C_field6_0 (TB m c f k) := by
 by_cases g0 : vN f 31 = (0)
 ·by_cases g1 : acc f = true
  ·by_cases g2 : vA c 512 = (0)
   ·exact absurd h (by unfold fieldD; rw [if_pos g0, if_pos g1, if_pos g2]; decide)
   ·by_cases g3 : (f : Int) = (25)
    ·exact absurd h (by unfold fieldD; rw [if_pos g0, if_pos g1, if_neg g2, if_pos g3]; decide)
    ·exact L_field6_13 b g0 g1 g2 g3
  ·by_cases g2 : vA c 512 = (0)
   ·exact L_field6_29 b g0 (Bool.eq_false_iff.2 g1) g2
   ·by_cases g3 : (f : Int) = (25)
    ·exact absurd h (by unfold fieldD; rw [if_pos g0, if_neg g1, if_neg g2, if_pos g3]; decide)
    ·exact L_field6_25 b g0 (Bool.eq_false_iff.2 g1) g2 g3
 ·by_cases g1 : vA c 512 = (0)
  ·exact L_field6_17 b g0 g1
  ·by_cases g2 : (f : Int) = (25)
   ·exact absurd h (by unfold fieldD; rw [if_neg g0, if_neg g1, if_pos g2]; decide)
   ·exact L_field6_21 b g0 g1 g2
end Go.Proofs.YtlfinnicdpiaaaaGreatDoor.cf
