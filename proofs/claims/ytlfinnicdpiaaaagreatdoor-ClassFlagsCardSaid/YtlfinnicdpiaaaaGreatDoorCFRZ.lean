/-
  What Read gives, whatever the flags.
-/
import Derived.Test.YtlfinnicdpiaaaaGreatDoorXN3
import Derived.Test.YtlfinnicdpiaaaaGreatDoorCFB
import Derived.Test.YtlfinnicdpiaaaaGreatDoorCFR0
import Derived.Test.YtlfinnicdpiaaaaGreatDoorCFR1
import Derived.Test.YtlfinnicdpiaaaaGreatDoorCFR2
import Derived.Test.YtlfinnicdpiaaaaGreatDoorCFR3
import Derived.Test.YtlfinnicdpiaaaaGreatDoorCFHZ
import Derived.Test.YtlfinnicdpiaaaaGreatDoorCFFZ
import Derived.Test.YtlfinnicdpiaaaaGreatDoorCFMZ
import Derived.KernelRfl
set_option linter.unusedVariables false
set_option linter.unusedSimpArgs false
set_option maxRecDepth 1000000
set_option maxHeartbeats 0
namespace Go.Proofs.YtlfinnicdpiaaaaGreatDoor.cf
open Go.X Go.RowKit
theorem Read1_0_ok {m c f k : Nat} (b : Bd m c f k) (h : ReadD m c f k = 0) : @InOk Tryz.prog C_Read1_0 (TB m c f k) := by
 by_cases g0 : headD m c f k = 0
 ·by_cases g1 : (f : Int) ≤ (100)
  ·by_cases g2 : (f : Int) > (0)
   ·exact L_Read1_1 b (head2_0_ok b g0) g1 g2
   ·exact L_Read1_5 b (head2_0_ok b g0) g1 g2
  ·by_cases g2 : (f : Int) > (0)
   ·exact L_Read1_9 b (head2_0_ok b g0) g1 g2
   ·exact absurd h (by unfold ReadD; rw [if_pos g0, if_neg g1, if_neg g2]; decide)
 have g0_0 := g0
 by_cases g0 : headD m c f k = 1
 ·by_cases g1 : fieldD m c f k = 0
  ·by_cases g2 : methodD m c f k = 0
   ·exact absurd h (by unfold ReadD; rw [if_neg g0_0, if_pos g0, if_pos g1, if_pos g2]; decide)
   have g2_0 := g2
   by_cases g2 : methodD m c f k = 1
   ·exact absurd h (by unfold ReadD; rw [if_neg g0_0, if_pos g0, if_pos g1, if_neg g2_0, if_pos g2]; decide)
   have g2_1 := g2
   by_cases g2 : methodD m c f k = 2
   ·exact absurd h (by unfold ReadD; rw [if_neg g0_0, if_pos g0, if_pos g1, if_neg g2_0, if_neg g2_1, if_pos g2]; decide)
   have g2_2 := g2
   by_cases g2 : methodD m c f k = 3
   ·exact absurd h (by unfold ReadD; rw [if_neg g0_0, if_pos g0, if_pos g1, if_neg g2_0, if_neg g2_1, if_neg g2_2, if_pos g2]; decide)
   have g2_3 := g2
   by_cases g2 : methodD m c f k = 4
   ·exact absurd h (by unfold ReadD; rw [if_neg g0_0, if_pos g0, if_pos g1, if_neg g2_0, if_neg g2_1, if_neg g2_2, if_neg g2_3, if_pos g2]; decide)
   have g2_4 := g2
   by_cases g2 : methodD m c f k = 5
   ·exact absurd h (by unfold ReadD; rw [if_neg g0_0, if_pos g0, if_pos g1, if_neg g2_0, if_neg g2_1, if_neg g2_2, if_neg g2_3, if_neg g2_4, if_pos g2]; decide)
   have g2_5 := g2
   by_cases g2 : methodD m c f k = 6
   ·exact absurd h (by unfold ReadD; rw [if_neg g0_0, if_pos g0, if_pos g1, if_neg g2_0, if_neg g2_1, if_neg g2_2, if_neg g2_3, if_neg g2_4, if_neg g2_5, if_pos g2]; decide)
   have g2_6 := g2
   exact absurd h (by unfold ReadD; rw [if_neg g0_0, if_pos g0, if_pos g1, if_neg g2_0, if_neg g2_1, if_neg g2_2, if_neg g2_3, if_neg g2_4, if_neg g2_5, if_neg g2_6]; decide)
  have g1_0 := g1
  by_cases g1 : fieldD m c f k = 1
  ·by_cases g2 : (k : Int) > (0)
   ·exact absurd h (by unfold ReadD; rw [if_neg g0_0, if_pos g0, if_neg g1_0, if_pos g1, if_pos g2]; decide)
   ·exact absurd h (by unfold ReadD; rw [if_neg g0_0, if_pos g0, if_neg g1_0, if_pos g1, if_neg g2]; decide)
  have g1_1 := g1
  exact absurd h (by unfold ReadD; rw [if_neg g0_0, if_pos g0, if_neg g1_0, if_neg g1_1]; decide)
 have g0_1 := g0
 exact absurd h (by unfold ReadD; rw [if_neg g0_0, if_neg g0_1]; decide)
theorem Read3_0_ok {m c f k : Nat} (b : Bd m c f k) (h : ReadD m c f k = 0) : @InOk Tryz.prog C_Read3_3 (TB m c f k) := by
 by_cases g0 : headD m c f k = 0
 ·by_cases g1 : (f : Int) ≤ (100)
  ·by_cases g2 : (f : Int) > (0)
   ·exact L_Read3_2 b (head3_0_ok b g0) g1 g2
   ·exact L_Read3_6 b (head3_0_ok b g0) g1 g2
  ·by_cases g2 : (f : Int) > (0)
   ·exact L_Read3_10 b (head3_0_ok b g0) g1 g2
   ·exact absurd h (by unfold ReadD; rw [if_pos g0, if_neg g1, if_neg g2]; decide)
 have g0_0 := g0
 by_cases g0 : headD m c f k = 1
 ·by_cases g1 : fieldD m c f k = 0
  ·by_cases g2 : methodD m c f k = 0
   ·exact absurd h (by unfold ReadD; rw [if_neg g0_0, if_pos g0, if_pos g1, if_pos g2]; decide)
   have g2_0 := g2
   by_cases g2 : methodD m c f k = 1
   ·exact absurd h (by unfold ReadD; rw [if_neg g0_0, if_pos g0, if_pos g1, if_neg g2_0, if_pos g2]; decide)
   have g2_1 := g2
   by_cases g2 : methodD m c f k = 2
   ·exact absurd h (by unfold ReadD; rw [if_neg g0_0, if_pos g0, if_pos g1, if_neg g2_0, if_neg g2_1, if_pos g2]; decide)
   have g2_2 := g2
   by_cases g2 : methodD m c f k = 3
   ·exact absurd h (by unfold ReadD; rw [if_neg g0_0, if_pos g0, if_pos g1, if_neg g2_0, if_neg g2_1, if_neg g2_2, if_pos g2]; decide)
   have g2_3 := g2
   by_cases g2 : methodD m c f k = 4
   ·exact absurd h (by unfold ReadD; rw [if_neg g0_0, if_pos g0, if_pos g1, if_neg g2_0, if_neg g2_1, if_neg g2_2, if_neg g2_3, if_pos g2]; decide)
   have g2_4 := g2
   by_cases g2 : methodD m c f k = 5
   ·exact absurd h (by unfold ReadD; rw [if_neg g0_0, if_pos g0, if_pos g1, if_neg g2_0, if_neg g2_1, if_neg g2_2, if_neg g2_3, if_neg g2_4, if_pos g2]; decide)
   have g2_5 := g2
   by_cases g2 : methodD m c f k = 6
   ·exact absurd h (by unfold ReadD; rw [if_neg g0_0, if_pos g0, if_pos g1, if_neg g2_0, if_neg g2_1, if_neg g2_2, if_neg g2_3, if_neg g2_4, if_neg g2_5, if_pos g2]; decide)
   have g2_6 := g2
   exact absurd h (by unfold ReadD; rw [if_neg g0_0, if_pos g0, if_pos g1, if_neg g2_0, if_neg g2_1, if_neg g2_2, if_neg g2_3, if_neg g2_4, if_neg g2_5, if_neg g2_6]; decide)
  have g1_0 := g1
  by_cases g1 : fieldD m c f k = 1
  ·by_cases g2 : (k : Int) > (0)
   ·exact absurd h (by unfold ReadD; rw [if_neg g0_0, if_pos g0, if_neg g1_0, if_pos g1, if_pos g2]; decide)
   ·exact absurd h (by unfold ReadD; rw [if_neg g0_0, if_pos g0, if_neg g1_0, if_pos g1, if_neg g2]; decide)
  have g1_1 := g1
  exact absurd h (by unfold ReadD; rw [if_neg g0_0, if_pos g0, if_neg g1_0, if_neg g1_1]; decide)
 have g0_1 := g0
 exact absurd h (by unfold ReadD; rw [if_neg g0_0, if_neg g0_1]; decide)
theorem Read7_0_ok {m c f k : Nat} (b : Bd m c f k) (h : ReadD m c f k = 0) : @InOk Tryz.prog C_Read7_0 (TB m c f k) := by
 by_cases g0 : headD m c f k = 0
 ·by_cases g1 : (f : Int) ≤ (100)
  ·by_cases g2 : (f : Int) > (0)
   ·exact L_Read7_3 b (head1_0_ok b g0) g1 g2
   ·exact L_Read7_7 b (head1_0_ok b g0) g1 g2
  ·by_cases g2 : (f : Int) > (0)
   ·exact L_Read7_11 b (head1_0_ok b g0) g1 g2
   ·exact absurd h (by unfold ReadD; rw [if_pos g0, if_neg g1, if_neg g2]; decide)
 have g0_0 := g0
 by_cases g0 : headD m c f k = 1
 ·by_cases g1 : fieldD m c f k = 0
  ·by_cases g2 : methodD m c f k = 0
   ·exact absurd h (by unfold ReadD; rw [if_neg g0_0, if_pos g0, if_pos g1, if_pos g2]; decide)
   have g2_0 := g2
   by_cases g2 : methodD m c f k = 1
   ·exact absurd h (by unfold ReadD; rw [if_neg g0_0, if_pos g0, if_pos g1, if_neg g2_0, if_pos g2]; decide)
   have g2_1 := g2
   by_cases g2 : methodD m c f k = 2
   ·exact absurd h (by unfold ReadD; rw [if_neg g0_0, if_pos g0, if_pos g1, if_neg g2_0, if_neg g2_1, if_pos g2]; decide)
   have g2_2 := g2
   by_cases g2 : methodD m c f k = 3
   ·exact absurd h (by unfold ReadD; rw [if_neg g0_0, if_pos g0, if_pos g1, if_neg g2_0, if_neg g2_1, if_neg g2_2, if_pos g2]; decide)
   have g2_3 := g2
   by_cases g2 : methodD m c f k = 4
   ·exact absurd h (by unfold ReadD; rw [if_neg g0_0, if_pos g0, if_pos g1, if_neg g2_0, if_neg g2_1, if_neg g2_2, if_neg g2_3, if_pos g2]; decide)
   have g2_4 := g2
   by_cases g2 : methodD m c f k = 5
   ·exact absurd h (by unfold ReadD; rw [if_neg g0_0, if_pos g0, if_pos g1, if_neg g2_0, if_neg g2_1, if_neg g2_2, if_neg g2_3, if_neg g2_4, if_pos g2]; decide)
   have g2_5 := g2
   by_cases g2 : methodD m c f k = 6
   ·exact absurd h (by unfold ReadD; rw [if_neg g0_0, if_pos g0, if_pos g1, if_neg g2_0, if_neg g2_1, if_neg g2_2, if_neg g2_3, if_neg g2_4, if_neg g2_5, if_pos g2]; decide)
   have g2_6 := g2
   exact absurd h (by unfold ReadD; rw [if_neg g0_0, if_pos g0, if_pos g1, if_neg g2_0, if_neg g2_1, if_neg g2_2, if_neg g2_3, if_neg g2_4, if_neg g2_5, if_neg g2_6]; decide)
  have g1_0 := g1
  by_cases g1 : fieldD m c f k = 1
  ·by_cases g2 : (k : Int) > (0)
   ·exact absurd h (by unfold ReadD; rw [if_neg g0_0, if_pos g0, if_neg g1_0, if_pos g1, if_pos g2]; decide)
   ·exact absurd h (by unfold ReadD; rw [if_neg g0_0, if_pos g0, if_neg g1_0, if_pos g1, if_neg g2]; decide)
  have g1_1 := g1
  exact absurd h (by unfold ReadD; rw [if_neg g0_0, if_pos g0, if_neg g1_0, if_neg g1_1]; decide)
 have g0_1 := g0
 exact absurd h (by unfold ReadD; rw [if_neg g0_0, if_neg g0_1]; decide)
theorem Read0_0_ok {m c f k : Nat} (b : Bd m c f k) (h : ReadD m c f k = 0) : @InOk Tryz.prog C_Read0_0 (TB m c f k) := by
 by_cases g0 : headD m c f k = 0
 ·by_cases g1 : (f : Int) ≤ (100)
  ·by_cases g2 : (f : Int) > (0)
   ·exact L_Read0_0 b (head0_0_ok b g0) g1 g2
   ·exact L_Read0_4 b (head0_0_ok b g0) g1 g2
  ·by_cases g2 : (f : Int) > (0)
   ·exact L_Read0_8 b (head0_0_ok b g0) g1 g2
   ·exact absurd h (by unfold ReadD; rw [if_pos g0, if_neg g1, if_neg g2]; decide)
 have g0_0 := g0
 by_cases g0 : headD m c f k = 1
 ·by_cases g1 : fieldD m c f k = 0
  ·by_cases g2 : methodD m c f k = 0
   ·exact absurd h (by unfold ReadD; rw [if_neg g0_0, if_pos g0, if_pos g1, if_pos g2]; decide)
   have g2_0 := g2
   by_cases g2 : methodD m c f k = 1
   ·exact absurd h (by unfold ReadD; rw [if_neg g0_0, if_pos g0, if_pos g1, if_neg g2_0, if_pos g2]; decide)
   have g2_1 := g2
   by_cases g2 : methodD m c f k = 2
   ·exact absurd h (by unfold ReadD; rw [if_neg g0_0, if_pos g0, if_pos g1, if_neg g2_0, if_neg g2_1, if_pos g2]; decide)
   have g2_2 := g2
   by_cases g2 : methodD m c f k = 3
   ·exact absurd h (by unfold ReadD; rw [if_neg g0_0, if_pos g0, if_pos g1, if_neg g2_0, if_neg g2_1, if_neg g2_2, if_pos g2]; decide)
   have g2_3 := g2
   by_cases g2 : methodD m c f k = 4
   ·exact absurd h (by unfold ReadD; rw [if_neg g0_0, if_pos g0, if_pos g1, if_neg g2_0, if_neg g2_1, if_neg g2_2, if_neg g2_3, if_pos g2]; decide)
   have g2_4 := g2
   by_cases g2 : methodD m c f k = 5
   ·exact absurd h (by unfold ReadD; rw [if_neg g0_0, if_pos g0, if_pos g1, if_neg g2_0, if_neg g2_1, if_neg g2_2, if_neg g2_3, if_neg g2_4, if_pos g2]; decide)
   have g2_5 := g2
   by_cases g2 : methodD m c f k = 6
   ·exact absurd h (by unfold ReadD; rw [if_neg g0_0, if_pos g0, if_pos g1, if_neg g2_0, if_neg g2_1, if_neg g2_2, if_neg g2_3, if_neg g2_4, if_neg g2_5, if_pos g2]; decide)
   have g2_6 := g2
   exact absurd h (by unfold ReadD; rw [if_neg g0_0, if_pos g0, if_pos g1, if_neg g2_0, if_neg g2_1, if_neg g2_2, if_neg g2_3, if_neg g2_4, if_neg g2_5, if_neg g2_6]; decide)
  have g1_0 := g1
  by_cases g1 : fieldD m c f k = 1
  ·by_cases g2 : (k : Int) > (0)
   ·exact absurd h (by unfold ReadD; rw [if_neg g0_0, if_pos g0, if_neg g1_0, if_pos g1, if_pos g2]; decide)
   ·exact absurd h (by unfold ReadD; rw [if_neg g0_0, if_pos g0, if_neg g1_0, if_pos g1, if_neg g2]; decide)
  have g1_1 := g1
  exact absurd h (by unfold ReadD; rw [if_neg g0_0, if_pos g0, if_neg g1_0, if_neg g1_1]; decide)
 have g0_1 := g0
 exact absurd h (by unfold ReadD; rw [if_neg g0_0, if_neg g0_1]; decide)
theorem Read1_1_ok {m c f k : Nat} (b : Bd m c f k) (h : ReadD m c f k = 1) : @InOk Tryz.prog C_Read1_1 (TB m c f k) := by
 by_cases g0 : headD m c f k = 0
 ·by_cases g1 : (f : Int) ≤ (100)
  ·by_cases g2 : (f : Int) > (0)
   ·exact absurd h (by unfold ReadD; rw [if_pos g0, if_pos g1, if_pos g2]; decide)
   ·exact absurd h (by unfold ReadD; rw [if_pos g0, if_pos g1, if_neg g2]; decide)
  ·by_cases g2 : (f : Int) > (0)
   ·exact absurd h (by unfold ReadD; rw [if_pos g0, if_neg g1, if_pos g2]; decide)
   ·exact absurd h (by unfold ReadD; rw [if_pos g0, if_neg g1, if_neg g2]; decide)
 have g0_0 := g0
 by_cases g0 : headD m c f k = 1
 ·by_cases g1 : fieldD m c f k = 0
  ·by_cases g2 : methodD m c f k = 0
   ·exact absurd h (by unfold ReadD; rw [if_neg g0_0, if_pos g0, if_pos g1, if_pos g2]; decide)
   have g2_0 := g2
   by_cases g2 : methodD m c f k = 1
   ·exact absurd h (by unfold ReadD; rw [if_neg g0_0, if_pos g0, if_pos g1, if_neg g2_0, if_pos g2]; decide)
   have g2_1 := g2
   by_cases g2 : methodD m c f k = 2
   ·exact absurd h (by unfold ReadD; rw [if_neg g0_0, if_pos g0, if_pos g1, if_neg g2_0, if_neg g2_1, if_pos g2]; decide)
   have g2_2 := g2
   by_cases g2 : methodD m c f k = 3
   ·exact L_Read1_12 b (head2_1_ok b g0) (field3_0_ok b g1) (method3_3_ok b g2)
   have g2_3 := g2
   by_cases g2 : methodD m c f k = 4
   ·exact absurd h (by unfold ReadD; rw [if_neg g0_0, if_pos g0, if_pos g1, if_neg g2_0, if_neg g2_1, if_neg g2_2, if_neg g2_3, if_pos g2]; decide)
   have g2_4 := g2
   by_cases g2 : methodD m c f k = 5
   ·exact absurd h (by unfold ReadD; rw [if_neg g0_0, if_pos g0, if_pos g1, if_neg g2_0, if_neg g2_1, if_neg g2_2, if_neg g2_3, if_neg g2_4, if_pos g2]; decide)
   have g2_5 := g2
   by_cases g2 : methodD m c f k = 6
   ·exact absurd h (by unfold ReadD; rw [if_neg g0_0, if_pos g0, if_pos g1, if_neg g2_0, if_neg g2_1, if_neg g2_2, if_neg g2_3, if_neg g2_4, if_neg g2_5, if_pos g2]; decide)
   have g2_6 := g2
   exact absurd h (by unfold ReadD; rw [if_neg g0_0, if_pos g0, if_pos g1, if_neg g2_0, if_neg g2_1, if_neg g2_2, if_neg g2_3, if_neg g2_4, if_neg g2_5, if_neg g2_6]; decide)
  have g1_0 := g1
  by_cases g1 : fieldD m c f k = 1
  ·by_cases g2 : (k : Int) > (0)
   ·exact absurd h (by unfold ReadD; rw [if_neg g0_0, if_pos g0, if_neg g1_0, if_pos g1, if_pos g2]; decide)
   ·exact absurd h (by unfold ReadD; rw [if_neg g0_0, if_pos g0, if_neg g1_0, if_pos g1, if_neg g2]; decide)
  have g1_1 := g1
  exact absurd h (by unfold ReadD; rw [if_neg g0_0, if_pos g0, if_neg g1_0, if_neg g1_1]; decide)
 have g0_1 := g0
 exact absurd h (by unfold ReadD; rw [if_neg g0_0, if_neg g0_1]; decide)
theorem Read4_1_ok {m c f k : Nat} (b : Bd m c f k) (h : ReadD m c f k = 1) : @InOk Tryz.prog C_Read4_0 (TB m c f k) := by
 by_cases g0 : headD m c f k = 0
 ·by_cases g1 : (f : Int) ≤ (100)
  ·by_cases g2 : (f : Int) > (0)
   ·exact absurd h (by unfold ReadD; rw [if_pos g0, if_pos g1, if_pos g2]; decide)
   ·exact absurd h (by unfold ReadD; rw [if_pos g0, if_pos g1, if_neg g2]; decide)
  ·by_cases g2 : (f : Int) > (0)
   ·exact absurd h (by unfold ReadD; rw [if_pos g0, if_neg g1, if_pos g2]; decide)
   ·exact absurd h (by unfold ReadD; rw [if_pos g0, if_neg g1, if_neg g2]; decide)
 have g0_0 := g0
 by_cases g0 : headD m c f k = 1
 ·by_cases g1 : fieldD m c f k = 0
  ·by_cases g2 : methodD m c f k = 0
   ·exact absurd h (by unfold ReadD; rw [if_neg g0_0, if_pos g0, if_pos g1, if_pos g2]; decide)
   have g2_0 := g2
   by_cases g2 : methodD m c f k = 1
   ·exact absurd h (by unfold ReadD; rw [if_neg g0_0, if_pos g0, if_pos g1, if_neg g2_0, if_pos g2]; decide)
   have g2_1 := g2
   by_cases g2 : methodD m c f k = 2
   ·exact absurd h (by unfold ReadD; rw [if_neg g0_0, if_pos g0, if_pos g1, if_neg g2_0, if_neg g2_1, if_pos g2]; decide)
   have g2_2 := g2
   by_cases g2 : methodD m c f k = 3
   ·exact L_Read4_13 b (head5_1_ok b g0) (field1_0_ok b g1) (method1_3_ok b g2)
   have g2_3 := g2
   by_cases g2 : methodD m c f k = 4
   ·exact absurd h (by unfold ReadD; rw [if_neg g0_0, if_pos g0, if_pos g1, if_neg g2_0, if_neg g2_1, if_neg g2_2, if_neg g2_3, if_pos g2]; decide)
   have g2_4 := g2
   by_cases g2 : methodD m c f k = 5
   ·exact absurd h (by unfold ReadD; rw [if_neg g0_0, if_pos g0, if_pos g1, if_neg g2_0, if_neg g2_1, if_neg g2_2, if_neg g2_3, if_neg g2_4, if_pos g2]; decide)
   have g2_5 := g2
   by_cases g2 : methodD m c f k = 6
   ·exact absurd h (by unfold ReadD; rw [if_neg g0_0, if_pos g0, if_pos g1, if_neg g2_0, if_neg g2_1, if_neg g2_2, if_neg g2_3, if_neg g2_4, if_neg g2_5, if_pos g2]; decide)
   have g2_6 := g2
   exact absurd h (by unfold ReadD; rw [if_neg g0_0, if_pos g0, if_pos g1, if_neg g2_0, if_neg g2_1, if_neg g2_2, if_neg g2_3, if_neg g2_4, if_neg g2_5, if_neg g2_6]; decide)
  have g1_0 := g1
  by_cases g1 : fieldD m c f k = 1
  ·by_cases g2 : (k : Int) > (0)
   ·exact absurd h (by unfold ReadD; rw [if_neg g0_0, if_pos g0, if_neg g1_0, if_pos g1, if_pos g2]; decide)
   ·exact absurd h (by unfold ReadD; rw [if_neg g0_0, if_pos g0, if_neg g1_0, if_pos g1, if_neg g2]; decide)
  have g1_1 := g1
  exact absurd h (by unfold ReadD; rw [if_neg g0_0, if_pos g0, if_neg g1_0, if_neg g1_1]; decide)
 have g0_1 := g0
 exact absurd h (by unfold ReadD; rw [if_neg g0_0, if_neg g0_1]; decide)
theorem Read1_2_ok {m c f k : Nat} (b : Bd m c f k) (h : ReadD m c f k = 2) : @InOk Tryz.prog C_Read1_2 (TB m c f k) := by
 by_cases g0 : headD m c f k = 0
 ·by_cases g1 : (f : Int) ≤ (100)
  ·by_cases g2 : (f : Int) > (0)
   ·exact absurd h (by unfold ReadD; rw [if_pos g0, if_pos g1, if_pos g2]; decide)
   ·exact absurd h (by unfold ReadD; rw [if_pos g0, if_pos g1, if_neg g2]; decide)
  ·by_cases g2 : (f : Int) > (0)
   ·exact absurd h (by unfold ReadD; rw [if_pos g0, if_neg g1, if_pos g2]; decide)
   ·exact absurd h (by unfold ReadD; rw [if_pos g0, if_neg g1, if_neg g2]; decide)
 have g0_0 := g0
 by_cases g0 : headD m c f k = 1
 ·by_cases g1 : fieldD m c f k = 0
  ·by_cases g2 : methodD m c f k = 0
   ·exact absurd h (by unfold ReadD; rw [if_neg g0_0, if_pos g0, if_pos g1, if_pos g2]; decide)
   have g2_0 := g2
   by_cases g2 : methodD m c f k = 1
   ·exact absurd h (by unfold ReadD; rw [if_neg g0_0, if_pos g0, if_pos g1, if_neg g2_0, if_pos g2]; decide)
   have g2_1 := g2
   by_cases g2 : methodD m c f k = 2
   ·exact absurd h (by unfold ReadD; rw [if_neg g0_0, if_pos g0, if_pos g1, if_neg g2_0, if_neg g2_1, if_pos g2]; decide)
   have g2_2 := g2
   by_cases g2 : methodD m c f k = 3
   ·exact absurd h (by unfold ReadD; rw [if_neg g0_0, if_pos g0, if_pos g1, if_neg g2_0, if_neg g2_1, if_neg g2_2, if_pos g2]; decide)
   have g2_3 := g2
   by_cases g2 : methodD m c f k = 4
   ·exact L_Read1_14 b (head2_1_ok b g0) (field3_0_ok b g1) (method3_4_ok b g2)
   have g2_4 := g2
   by_cases g2 : methodD m c f k = 5
   ·exact absurd h (by unfold ReadD; rw [if_neg g0_0, if_pos g0, if_pos g1, if_neg g2_0, if_neg g2_1, if_neg g2_2, if_neg g2_3, if_neg g2_4, if_pos g2]; decide)
   have g2_5 := g2
   by_cases g2 : methodD m c f k = 6
   ·exact absurd h (by unfold ReadD; rw [if_neg g0_0, if_pos g0, if_pos g1, if_neg g2_0, if_neg g2_1, if_neg g2_2, if_neg g2_3, if_neg g2_4, if_neg g2_5, if_pos g2]; decide)
   have g2_6 := g2
   exact absurd h (by unfold ReadD; rw [if_neg g0_0, if_pos g0, if_pos g1, if_neg g2_0, if_neg g2_1, if_neg g2_2, if_neg g2_3, if_neg g2_4, if_neg g2_5, if_neg g2_6]; decide)
  have g1_0 := g1
  by_cases g1 : fieldD m c f k = 1
  ·by_cases g2 : (k : Int) > (0)
   ·exact absurd h (by unfold ReadD; rw [if_neg g0_0, if_pos g0, if_neg g1_0, if_pos g1, if_pos g2]; decide)
   ·exact absurd h (by unfold ReadD; rw [if_neg g0_0, if_pos g0, if_neg g1_0, if_pos g1, if_neg g2]; decide)
  have g1_1 := g1
  exact absurd h (by unfold ReadD; rw [if_neg g0_0, if_pos g0, if_neg g1_0, if_neg g1_1]; decide)
 have g0_1 := g0
 exact absurd h (by unfold ReadD; rw [if_neg g0_0, if_neg g0_1]; decide)
theorem Read4_2_ok {m c f k : Nat} (b : Bd m c f k) (h : ReadD m c f k = 2) : @InOk Tryz.prog C_Read4_1 (TB m c f k) := by
 by_cases g0 : headD m c f k = 0
 ·by_cases g1 : (f : Int) ≤ (100)
  ·by_cases g2 : (f : Int) > (0)
   ·exact absurd h (by unfold ReadD; rw [if_pos g0, if_pos g1, if_pos g2]; decide)
   ·exact absurd h (by unfold ReadD; rw [if_pos g0, if_pos g1, if_neg g2]; decide)
  ·by_cases g2 : (f : Int) > (0)
   ·exact absurd h (by unfold ReadD; rw [if_pos g0, if_neg g1, if_pos g2]; decide)
   ·exact absurd h (by unfold ReadD; rw [if_pos g0, if_neg g1, if_neg g2]; decide)
 have g0_0 := g0
 by_cases g0 : headD m c f k = 1
 ·by_cases g1 : fieldD m c f k = 0
  ·by_cases g2 : methodD m c f k = 0
   ·exact absurd h (by unfold ReadD; rw [if_neg g0_0, if_pos g0, if_pos g1, if_pos g2]; decide)
   have g2_0 := g2
   by_cases g2 : methodD m c f k = 1
   ·exact absurd h (by unfold ReadD; rw [if_neg g0_0, if_pos g0, if_pos g1, if_neg g2_0, if_pos g2]; decide)
   have g2_1 := g2
   by_cases g2 : methodD m c f k = 2
   ·exact absurd h (by unfold ReadD; rw [if_neg g0_0, if_pos g0, if_pos g1, if_neg g2_0, if_neg g2_1, if_pos g2]; decide)
   have g2_2 := g2
   by_cases g2 : methodD m c f k = 3
   ·exact absurd h (by unfold ReadD; rw [if_neg g0_0, if_pos g0, if_pos g1, if_neg g2_0, if_neg g2_1, if_neg g2_2, if_pos g2]; decide)
   have g2_3 := g2
   by_cases g2 : methodD m c f k = 4
   ·exact L_Read4_15 b (head5_1_ok b g0) (field1_0_ok b g1) (method1_4_ok b g2)
   have g2_4 := g2
   by_cases g2 : methodD m c f k = 5
   ·exact absurd h (by unfold ReadD; rw [if_neg g0_0, if_pos g0, if_pos g1, if_neg g2_0, if_neg g2_1, if_neg g2_2, if_neg g2_3, if_neg g2_4, if_pos g2]; decide)
   have g2_5 := g2
   by_cases g2 : methodD m c f k = 6
   ·exact absurd h (by unfold ReadD; rw [if_neg g0_0, if_pos g0, if_pos g1, if_neg g2_0, if_neg g2_1, if_neg g2_2, if_neg g2_3, if_neg g2_4, if_neg g2_5, if_pos g2]; decide)
   have g2_6 := g2
   exact absurd h (by unfold ReadD; rw [if_neg g0_0, if_pos g0, if_pos g1, if_neg g2_0, if_neg g2_1, if_neg g2_2, if_neg g2_3, if_neg g2_4, if_neg g2_5, if_neg g2_6]; decide)
  have g1_0 := g1
  by_cases g1 : fieldD m c f k = 1
  ·by_cases g2 : (k : Int) > (0)
   ·exact absurd h (by unfold ReadD; rw [if_neg g0_0, if_pos g0, if_neg g1_0, if_pos g1, if_pos g2]; decide)
   ·exact absurd h (by unfold ReadD; rw [if_neg g0_0, if_pos g0, if_neg g1_0, if_pos g1, if_neg g2]; decide)
  have g1_1 := g1
  exact absurd h (by unfold ReadD; rw [if_neg g0_0, if_pos g0, if_neg g1_0, if_neg g1_1]; decide)
 have g0_1 := g0
 exact absurd h (by unfold ReadD; rw [if_neg g0_0, if_neg g0_1]; decide)
theorem Read1_3_ok {m c f k : Nat} (b : Bd m c f k) (h : ReadD m c f k = 3) : @InOk Tryz.prog C_Read1_3 (TB m c f k) := by
 by_cases g0 : headD m c f k = 0
 ·by_cases g1 : (f : Int) ≤ (100)
  ·by_cases g2 : (f : Int) > (0)
   ·exact absurd h (by unfold ReadD; rw [if_pos g0, if_pos g1, if_pos g2]; decide)
   ·exact absurd h (by unfold ReadD; rw [if_pos g0, if_pos g1, if_neg g2]; decide)
  ·by_cases g2 : (f : Int) > (0)
   ·exact absurd h (by unfold ReadD; rw [if_pos g0, if_neg g1, if_pos g2]; decide)
   ·exact absurd h (by unfold ReadD; rw [if_pos g0, if_neg g1, if_neg g2]; decide)
 have g0_0 := g0
 by_cases g0 : headD m c f k = 1
 ·by_cases g1 : fieldD m c f k = 0
  ·by_cases g2 : methodD m c f k = 0
   ·exact absurd h (by unfold ReadD; rw [if_neg g0_0, if_pos g0, if_pos g1, if_pos g2]; decide)
   have g2_0 := g2
   by_cases g2 : methodD m c f k = 1
   ·exact absurd h (by unfold ReadD; rw [if_neg g0_0, if_pos g0, if_pos g1, if_neg g2_0, if_pos g2]; decide)
   have g2_1 := g2
   by_cases g2 : methodD m c f k = 2
   ·exact absurd h (by unfold ReadD; rw [if_neg g0_0, if_pos g0, if_pos g1, if_neg g2_0, if_neg g2_1, if_pos g2]; decide)
   have g2_2 := g2
   by_cases g2 : methodD m c f k = 3
   ·exact absurd h (by unfold ReadD; rw [if_neg g0_0, if_pos g0, if_pos g1, if_neg g2_0, if_neg g2_1, if_neg g2_2, if_pos g2]; decide)
   have g2_3 := g2
   by_cases g2 : methodD m c f k = 4
   ·exact absurd h (by unfold ReadD; rw [if_neg g0_0, if_pos g0, if_pos g1, if_neg g2_0, if_neg g2_1, if_neg g2_2, if_neg g2_3, if_pos g2]; decide)
   have g2_4 := g2
   by_cases g2 : methodD m c f k = 5
   ·exact L_Read1_16 b (head2_1_ok b g0) (field3_0_ok b g1) (method3_5_ok b g2)
   have g2_5 := g2
   by_cases g2 : methodD m c f k = 6
   ·exact absurd h (by unfold ReadD; rw [if_neg g0_0, if_pos g0, if_pos g1, if_neg g2_0, if_neg g2_1, if_neg g2_2, if_neg g2_3, if_neg g2_4, if_neg g2_5, if_pos g2]; decide)
   have g2_6 := g2
   exact absurd h (by unfold ReadD; rw [if_neg g0_0, if_pos g0, if_pos g1, if_neg g2_0, if_neg g2_1, if_neg g2_2, if_neg g2_3, if_neg g2_4, if_neg g2_5, if_neg g2_6]; decide)
  have g1_0 := g1
  by_cases g1 : fieldD m c f k = 1
  ·by_cases g2 : (k : Int) > (0)
   ·exact absurd h (by unfold ReadD; rw [if_neg g0_0, if_pos g0, if_neg g1_0, if_pos g1, if_pos g2]; decide)
   ·exact absurd h (by unfold ReadD; rw [if_neg g0_0, if_pos g0, if_neg g1_0, if_pos g1, if_neg g2]; decide)
  have g1_1 := g1
  exact absurd h (by unfold ReadD; rw [if_neg g0_0, if_pos g0, if_neg g1_0, if_neg g1_1]; decide)
 have g0_1 := g0
 exact absurd h (by unfold ReadD; rw [if_neg g0_0, if_neg g0_1]; decide)
theorem Read5_3_ok {m c f k : Nat} (b : Bd m c f k) (h : ReadD m c f k = 3) : @InOk Tryz.prog C_Read5_0 (TB m c f k) := by
 by_cases g0 : headD m c f k = 0
 ·by_cases g1 : (f : Int) ≤ (100)
  ·by_cases g2 : (f : Int) > (0)
   ·exact absurd h (by unfold ReadD; rw [if_pos g0, if_pos g1, if_pos g2]; decide)
   ·exact absurd h (by unfold ReadD; rw [if_pos g0, if_pos g1, if_neg g2]; decide)
  ·by_cases g2 : (f : Int) > (0)
   ·exact absurd h (by unfold ReadD; rw [if_pos g0, if_neg g1, if_pos g2]; decide)
   ·exact absurd h (by unfold ReadD; rw [if_pos g0, if_neg g1, if_neg g2]; decide)
 have g0_0 := g0
 by_cases g0 : headD m c f k = 1
 ·by_cases g1 : fieldD m c f k = 0
  ·by_cases g2 : methodD m c f k = 0
   ·exact absurd h (by unfold ReadD; rw [if_neg g0_0, if_pos g0, if_pos g1, if_pos g2]; decide)
   have g2_0 := g2
   by_cases g2 : methodD m c f k = 1
   ·exact absurd h (by unfold ReadD; rw [if_neg g0_0, if_pos g0, if_pos g1, if_neg g2_0, if_pos g2]; decide)
   have g2_1 := g2
   by_cases g2 : methodD m c f k = 2
   ·exact absurd h (by unfold ReadD; rw [if_neg g0_0, if_pos g0, if_pos g1, if_neg g2_0, if_neg g2_1, if_pos g2]; decide)
   have g2_2 := g2
   by_cases g2 : methodD m c f k = 3
   ·exact absurd h (by unfold ReadD; rw [if_neg g0_0, if_pos g0, if_pos g1, if_neg g2_0, if_neg g2_1, if_neg g2_2, if_pos g2]; decide)
   have g2_3 := g2
   by_cases g2 : methodD m c f k = 4
   ·exact absurd h (by unfold ReadD; rw [if_neg g0_0, if_pos g0, if_pos g1, if_neg g2_0, if_neg g2_1, if_neg g2_2, if_neg g2_3, if_pos g2]; decide)
   have g2_4 := g2
   by_cases g2 : methodD m c f k = 5
   ·exact L_Read5_17 b (head6_1_ok b g0) (field4_0_ok b g1) (method4_5_ok b g2)
   have g2_5 := g2
   by_cases g2 : methodD m c f k = 6
   ·exact absurd h (by unfold ReadD; rw [if_neg g0_0, if_pos g0, if_pos g1, if_neg g2_0, if_neg g2_1, if_neg g2_2, if_neg g2_3, if_neg g2_4, if_neg g2_5, if_pos g2]; decide)
   have g2_6 := g2
   exact absurd h (by unfold ReadD; rw [if_neg g0_0, if_pos g0, if_pos g1, if_neg g2_0, if_neg g2_1, if_neg g2_2, if_neg g2_3, if_neg g2_4, if_neg g2_5, if_neg g2_6]; decide)
  have g1_0 := g1
  by_cases g1 : fieldD m c f k = 1
  ·by_cases g2 : (k : Int) > (0)
   ·exact absurd h (by unfold ReadD; rw [if_neg g0_0, if_pos g0, if_neg g1_0, if_pos g1, if_pos g2]; decide)
   ·exact absurd h (by unfold ReadD; rw [if_neg g0_0, if_pos g0, if_neg g1_0, if_pos g1, if_neg g2]; decide)
  have g1_1 := g1
  exact absurd h (by unfold ReadD; rw [if_neg g0_0, if_pos g0, if_neg g1_0, if_neg g1_1]; decide)
 have g0_1 := g0
 exact absurd h (by unfold ReadD; rw [if_neg g0_0, if_neg g0_1]; decide)
theorem Read1_4_ok {m c f k : Nat} (b : Bd m c f k) (h : ReadD m c f k = 4) : @InOk Tryz.prog C_Read1_4 (TB m c f k) := by
 by_cases g0 : headD m c f k = 0
 ·by_cases g1 : (f : Int) ≤ (100)
  ·by_cases g2 : (f : Int) > (0)
   ·exact absurd h (by unfold ReadD; rw [if_pos g0, if_pos g1, if_pos g2]; decide)
   ·exact absurd h (by unfold ReadD; rw [if_pos g0, if_pos g1, if_neg g2]; decide)
  ·by_cases g2 : (f : Int) > (0)
   ·exact absurd h (by unfold ReadD; rw [if_pos g0, if_neg g1, if_pos g2]; decide)
   ·exact absurd h (by unfold ReadD; rw [if_pos g0, if_neg g1, if_neg g2]; decide)
 have g0_0 := g0
 by_cases g0 : headD m c f k = 1
 ·by_cases g1 : fieldD m c f k = 0
  ·by_cases g2 : methodD m c f k = 0
   ·exact absurd h (by unfold ReadD; rw [if_neg g0_0, if_pos g0, if_pos g1, if_pos g2]; decide)
   have g2_0 := g2
   by_cases g2 : methodD m c f k = 1
   ·exact absurd h (by unfold ReadD; rw [if_neg g0_0, if_pos g0, if_pos g1, if_neg g2_0, if_pos g2]; decide)
   have g2_1 := g2
   by_cases g2 : methodD m c f k = 2
   ·exact absurd h (by unfold ReadD; rw [if_neg g0_0, if_pos g0, if_pos g1, if_neg g2_0, if_neg g2_1, if_pos g2]; decide)
   have g2_2 := g2
   by_cases g2 : methodD m c f k = 3
   ·exact absurd h (by unfold ReadD; rw [if_neg g0_0, if_pos g0, if_pos g1, if_neg g2_0, if_neg g2_1, if_neg g2_2, if_pos g2]; decide)
   have g2_3 := g2
   by_cases g2 : methodD m c f k = 4
   ·exact absurd h (by unfold ReadD; rw [if_neg g0_0, if_pos g0, if_pos g1, if_neg g2_0, if_neg g2_1, if_neg g2_2, if_neg g2_3, if_pos g2]; decide)
   have g2_4 := g2
   by_cases g2 : methodD m c f k = 5
   ·exact absurd h (by unfold ReadD; rw [if_neg g0_0, if_pos g0, if_pos g1, if_neg g2_0, if_neg g2_1, if_neg g2_2, if_neg g2_3, if_neg g2_4, if_pos g2]; decide)
   have g2_5 := g2
   by_cases g2 : methodD m c f k = 6
   ·exact absurd h (by unfold ReadD; rw [if_neg g0_0, if_pos g0, if_pos g1, if_neg g2_0, if_neg g2_1, if_neg g2_2, if_neg g2_3, if_neg g2_4, if_neg g2_5, if_pos g2]; decide)
   have g2_6 := g2
   exact absurd h (by unfold ReadD; rw [if_neg g0_0, if_pos g0, if_pos g1, if_neg g2_0, if_neg g2_1, if_neg g2_2, if_neg g2_3, if_neg g2_4, if_neg g2_5, if_neg g2_6]; decide)
  have g1_0 := g1
  by_cases g1 : fieldD m c f k = 1
  ·by_cases g2 : (k : Int) > (0)
   ·exact L_Read1_18 b (head2_1_ok b g0) (field3_1_ok b g1) g2
   ·exact absurd h (by unfold ReadD; rw [if_neg g0_0, if_pos g0, if_neg g1_0, if_pos g1, if_neg g2]; decide)
  have g1_1 := g1
  exact absurd h (by unfold ReadD; rw [if_neg g0_0, if_pos g0, if_neg g1_0, if_neg g1_1]; decide)
 have g0_1 := g0
 exact absurd h (by unfold ReadD; rw [if_neg g0_0, if_neg g0_1]; decide)
theorem Read3_4_ok {m c f k : Nat} (b : Bd m c f k) (h : ReadD m c f k = 4) : @InOk Tryz.prog C_Read3_4 (TB m c f k) := by
 by_cases g0 : headD m c f k = 0
 ·by_cases g1 : (f : Int) ≤ (100)
  ·by_cases g2 : (f : Int) > (0)
   ·exact absurd h (by unfold ReadD; rw [if_pos g0, if_pos g1, if_pos g2]; decide)
   ·exact absurd h (by unfold ReadD; rw [if_pos g0, if_pos g1, if_neg g2]; decide)
  ·by_cases g2 : (f : Int) > (0)
   ·exact absurd h (by unfold ReadD; rw [if_pos g0, if_neg g1, if_pos g2]; decide)
   ·exact absurd h (by unfold ReadD; rw [if_pos g0, if_neg g1, if_neg g2]; decide)
 have g0_0 := g0
 by_cases g0 : headD m c f k = 1
 ·by_cases g1 : fieldD m c f k = 0
  ·by_cases g2 : methodD m c f k = 0
   ·exact absurd h (by unfold ReadD; rw [if_neg g0_0, if_pos g0, if_pos g1, if_pos g2]; decide)
   have g2_0 := g2
   by_cases g2 : methodD m c f k = 1
   ·exact absurd h (by unfold ReadD; rw [if_neg g0_0, if_pos g0, if_pos g1, if_neg g2_0, if_pos g2]; decide)
   have g2_1 := g2
   by_cases g2 : methodD m c f k = 2
   ·exact absurd h (by unfold ReadD; rw [if_neg g0_0, if_pos g0, if_pos g1, if_neg g2_0, if_neg g2_1, if_pos g2]; decide)
   have g2_2 := g2
   by_cases g2 : methodD m c f k = 3
   ·exact absurd h (by unfold ReadD; rw [if_neg g0_0, if_pos g0, if_pos g1, if_neg g2_0, if_neg g2_1, if_neg g2_2, if_pos g2]; decide)
   have g2_3 := g2
   by_cases g2 : methodD m c f k = 4
   ·exact absurd h (by unfold ReadD; rw [if_neg g0_0, if_pos g0, if_pos g1, if_neg g2_0, if_neg g2_1, if_neg g2_2, if_neg g2_3, if_pos g2]; decide)
   have g2_4 := g2
   by_cases g2 : methodD m c f k = 5
   ·exact absurd h (by unfold ReadD; rw [if_neg g0_0, if_pos g0, if_pos g1, if_neg g2_0, if_neg g2_1, if_neg g2_2, if_neg g2_3, if_neg g2_4, if_pos g2]; decide)
   have g2_5 := g2
   by_cases g2 : methodD m c f k = 6
   ·exact absurd h (by unfold ReadD; rw [if_neg g0_0, if_pos g0, if_pos g1, if_neg g2_0, if_neg g2_1, if_neg g2_2, if_neg g2_3, if_neg g2_4, if_neg g2_5, if_pos g2]; decide)
   have g2_6 := g2
   exact absurd h (by unfold ReadD; rw [if_neg g0_0, if_pos g0, if_pos g1, if_neg g2_0, if_neg g2_1, if_neg g2_2, if_neg g2_3, if_neg g2_4, if_neg g2_5, if_neg g2_6]; decide)
  have g1_0 := g1
  by_cases g1 : fieldD m c f k = 1
  ·by_cases g2 : (k : Int) > (0)
   ·exact L_Read3_19 b (head3_1_ok b g0) (field2_1_ok b g1) g2
   ·exact absurd h (by unfold ReadD; rw [if_neg g0_0, if_pos g0, if_neg g1_0, if_pos g1, if_neg g2]; decide)
  have g1_1 := g1
  exact absurd h (by unfold ReadD; rw [if_neg g0_0, if_pos g0, if_neg g1_0, if_neg g1_1]; decide)
 have g0_1 := g0
 exact absurd h (by unfold ReadD; rw [if_neg g0_0, if_neg g0_1]; decide)
theorem Read8_4_ok {m c f k : Nat} (b : Bd m c f k) (h : ReadD m c f k = 4) : @InOk Tryz.prog C_Read8_0 (TB m c f k) := by
 by_cases g0 : headD m c f k = 0
 ·by_cases g1 : (f : Int) ≤ (100)
  ·by_cases g2 : (f : Int) > (0)
   ·exact absurd h (by unfold ReadD; rw [if_pos g0, if_pos g1, if_pos g2]; decide)
   ·exact absurd h (by unfold ReadD; rw [if_pos g0, if_pos g1, if_neg g2]; decide)
  ·by_cases g2 : (f : Int) > (0)
   ·exact absurd h (by unfold ReadD; rw [if_pos g0, if_neg g1, if_pos g2]; decide)
   ·exact absurd h (by unfold ReadD; rw [if_pos g0, if_neg g1, if_neg g2]; decide)
 have g0_0 := g0
 by_cases g0 : headD m c f k = 1
 ·by_cases g1 : fieldD m c f k = 0
  ·by_cases g2 : methodD m c f k = 0
   ·exact absurd h (by unfold ReadD; rw [if_neg g0_0, if_pos g0, if_pos g1, if_pos g2]; decide)
   have g2_0 := g2
   by_cases g2 : methodD m c f k = 1
   ·exact absurd h (by unfold ReadD; rw [if_neg g0_0, if_pos g0, if_pos g1, if_neg g2_0, if_pos g2]; decide)
   have g2_1 := g2
   by_cases g2 : methodD m c f k = 2
   ·exact absurd h (by unfold ReadD; rw [if_neg g0_0, if_pos g0, if_pos g1, if_neg g2_0, if_neg g2_1, if_pos g2]; decide)
   have g2_2 := g2
   by_cases g2 : methodD m c f k = 3
   ·exact absurd h (by unfold ReadD; rw [if_neg g0_0, if_pos g0, if_pos g1, if_neg g2_0, if_neg g2_1, if_neg g2_2, if_pos g2]; decide)
   have g2_3 := g2
   by_cases g2 : methodD m c f k = 4
   ·exact absurd h (by unfold ReadD; rw [if_neg g0_0, if_pos g0, if_pos g1, if_neg g2_0, if_neg g2_1, if_neg g2_2, if_neg g2_3, if_pos g2]; decide)
   have g2_4 := g2
   by_cases g2 : methodD m c f k = 5
   ·exact absurd h (by unfold ReadD; rw [if_neg g0_0, if_pos g0, if_pos g1, if_neg g2_0, if_neg g2_1, if_neg g2_2, if_neg g2_3, if_neg g2_4, if_pos g2]; decide)
   have g2_5 := g2
   by_cases g2 : methodD m c f k = 6
   ·exact absurd h (by unfold ReadD; rw [if_neg g0_0, if_pos g0, if_pos g1, if_neg g2_0, if_neg g2_1, if_neg g2_2, if_neg g2_3, if_neg g2_4, if_neg g2_5, if_pos g2]; decide)
   have g2_6 := g2
   exact absurd h (by unfold ReadD; rw [if_neg g0_0, if_pos g0, if_pos g1, if_neg g2_0, if_neg g2_1, if_neg g2_2, if_neg g2_3, if_neg g2_4, if_neg g2_5, if_neg g2_6]; decide)
  have g1_0 := g1
  by_cases g1 : fieldD m c f k = 1
  ·by_cases g2 : (k : Int) > (0)
   ·exact L_Read8_21 b (head8_1_ok b g0) (field6_1_ok b g1) g2
   ·exact absurd h (by unfold ReadD; rw [if_neg g0_0, if_pos g0, if_neg g1_0, if_pos g1, if_neg g2]; decide)
  have g1_1 := g1
  exact absurd h (by unfold ReadD; rw [if_neg g0_0, if_pos g0, if_neg g1_0, if_neg g1_1]; decide)
 have g0_1 := g0
 exact absurd h (by unfold ReadD; rw [if_neg g0_0, if_neg g0_1]; decide)
theorem Read6_4_ok {m c f k : Nat} (b : Bd m c f k) (h : ReadD m c f k = 4) : @InOk Tryz.prog C_Read6_0 (TB m c f k) := by
 by_cases g0 : headD m c f k = 0
 ·by_cases g1 : (f : Int) ≤ (100)
  ·by_cases g2 : (f : Int) > (0)
   ·exact absurd h (by unfold ReadD; rw [if_pos g0, if_pos g1, if_pos g2]; decide)
   ·exact absurd h (by unfold ReadD; rw [if_pos g0, if_pos g1, if_neg g2]; decide)
  ·by_cases g2 : (f : Int) > (0)
   ·exact absurd h (by unfold ReadD; rw [if_pos g0, if_neg g1, if_pos g2]; decide)
   ·exact absurd h (by unfold ReadD; rw [if_pos g0, if_neg g1, if_neg g2]; decide)
 have g0_0 := g0
 by_cases g0 : headD m c f k = 1
 ·by_cases g1 : fieldD m c f k = 0
  ·by_cases g2 : methodD m c f k = 0
   ·exact absurd h (by unfold ReadD; rw [if_neg g0_0, if_pos g0, if_pos g1, if_pos g2]; decide)
   have g2_0 := g2
   by_cases g2 : methodD m c f k = 1
   ·exact absurd h (by unfold ReadD; rw [if_neg g0_0, if_pos g0, if_pos g1, if_neg g2_0, if_pos g2]; decide)
   have g2_1 := g2
   by_cases g2 : methodD m c f k = 2
   ·exact absurd h (by unfold ReadD; rw [if_neg g0_0, if_pos g0, if_pos g1, if_neg g2_0, if_neg g2_1, if_pos g2]; decide)
   have g2_2 := g2
   by_cases g2 : methodD m c f k = 3
   ·exact absurd h (by unfold ReadD; rw [if_neg g0_0, if_pos g0, if_pos g1, if_neg g2_0, if_neg g2_1, if_neg g2_2, if_pos g2]; decide)
   have g2_3 := g2
   by_cases g2 : methodD m c f k = 4
   ·exact absurd h (by unfold ReadD; rw [if_neg g0_0, if_pos g0, if_pos g1, if_neg g2_0, if_neg g2_1, if_neg g2_2, if_neg g2_3, if_pos g2]; decide)
   have g2_4 := g2
   by_cases g2 : methodD m c f k = 5
   ·exact absurd h (by unfold ReadD; rw [if_neg g0_0, if_pos g0, if_pos g1, if_neg g2_0, if_neg g2_1, if_neg g2_2, if_neg g2_3, if_neg g2_4, if_pos g2]; decide)
   have g2_5 := g2
   by_cases g2 : methodD m c f k = 6
   ·exact absurd h (by unfold ReadD; rw [if_neg g0_0, if_pos g0, if_pos g1, if_neg g2_0, if_neg g2_1, if_neg g2_2, if_neg g2_3, if_neg g2_4, if_neg g2_5, if_pos g2]; decide)
   have g2_6 := g2
   exact absurd h (by unfold ReadD; rw [if_neg g0_0, if_pos g0, if_pos g1, if_neg g2_0, if_neg g2_1, if_neg g2_2, if_neg g2_3, if_neg g2_4, if_neg g2_5, if_neg g2_6]; decide)
  have g1_0 := g1
  by_cases g1 : fieldD m c f k = 1
  ·by_cases g2 : (k : Int) > (0)
   ·exact L_Read6_20 b (head7_1_ok b g0) (field5_1_ok b g1) g2
   ·exact absurd h (by unfold ReadD; rw [if_neg g0_0, if_pos g0, if_neg g1_0, if_pos g1, if_neg g2]; decide)
  have g1_1 := g1
  exact absurd h (by unfold ReadD; rw [if_neg g0_0, if_pos g0, if_neg g1_0, if_neg g1_1]; decide)
 have g0_1 := g0
 exact absurd h (by unfold ReadD; rw [if_neg g0_0, if_neg g0_1]; decide)
theorem Read1_5_ok {m c f k : Nat} (b : Bd m c f k) (h : ReadD m c f k = 5) : @InOk Tryz.prog C_Read1_5 (TB m c f k) := by
 by_cases g0 : headD m c f k = 0
 ·by_cases g1 : (f : Int) ≤ (100)
  ·by_cases g2 : (f : Int) > (0)
   ·exact absurd h (by unfold ReadD; rw [if_pos g0, if_pos g1, if_pos g2]; decide)
   ·exact absurd h (by unfold ReadD; rw [if_pos g0, if_pos g1, if_neg g2]; decide)
  ·by_cases g2 : (f : Int) > (0)
   ·exact absurd h (by unfold ReadD; rw [if_pos g0, if_neg g1, if_pos g2]; decide)
   ·exact absurd h (by unfold ReadD; rw [if_pos g0, if_neg g1, if_neg g2]; decide)
 have g0_0 := g0
 by_cases g0 : headD m c f k = 1
 ·by_cases g1 : fieldD m c f k = 0
  ·by_cases g2 : methodD m c f k = 0
   ·exact absurd h (by unfold ReadD; rw [if_neg g0_0, if_pos g0, if_pos g1, if_pos g2]; decide)
   have g2_0 := g2
   by_cases g2 : methodD m c f k = 1
   ·exact absurd h (by unfold ReadD; rw [if_neg g0_0, if_pos g0, if_pos g1, if_neg g2_0, if_pos g2]; decide)
   have g2_1 := g2
   by_cases g2 : methodD m c f k = 2
   ·exact absurd h (by unfold ReadD; rw [if_neg g0_0, if_pos g0, if_pos g1, if_neg g2_0, if_neg g2_1, if_pos g2]; decide)
   have g2_2 := g2
   by_cases g2 : methodD m c f k = 3
   ·exact absurd h (by unfold ReadD; rw [if_neg g0_0, if_pos g0, if_pos g1, if_neg g2_0, if_neg g2_1, if_neg g2_2, if_pos g2]; decide)
   have g2_3 := g2
   by_cases g2 : methodD m c f k = 4
   ·exact absurd h (by unfold ReadD; rw [if_neg g0_0, if_pos g0, if_pos g1, if_neg g2_0, if_neg g2_1, if_neg g2_2, if_neg g2_3, if_pos g2]; decide)
   have g2_4 := g2
   by_cases g2 : methodD m c f k = 5
   ·exact absurd h (by unfold ReadD; rw [if_neg g0_0, if_pos g0, if_pos g1, if_neg g2_0, if_neg g2_1, if_neg g2_2, if_neg g2_3, if_neg g2_4, if_pos g2]; decide)
   have g2_5 := g2
   by_cases g2 : methodD m c f k = 6
   ·exact L_Read1_22 b (head2_1_ok b g0) (field3_0_ok b g1) (method3_6_ok b g2)
   have g2_6 := g2
   exact absurd h (by unfold ReadD; rw [if_neg g0_0, if_pos g0, if_pos g1, if_neg g2_0, if_neg g2_1, if_neg g2_2, if_neg g2_3, if_neg g2_4, if_neg g2_5, if_neg g2_6]; decide)
  have g1_0 := g1
  by_cases g1 : fieldD m c f k = 1
  ·by_cases g2 : (k : Int) > (0)
   ·exact absurd h (by unfold ReadD; rw [if_neg g0_0, if_pos g0, if_neg g1_0, if_pos g1, if_pos g2]; decide)
   ·exact absurd h (by unfold ReadD; rw [if_neg g0_0, if_pos g0, if_neg g1_0, if_pos g1, if_neg g2]; decide)
  have g1_1 := g1
  exact absurd h (by unfold ReadD; rw [if_neg g0_0, if_pos g0, if_neg g1_0, if_neg g1_1]; decide)
 have g0_1 := g0
 exact absurd h (by unfold ReadD; rw [if_neg g0_0, if_neg g0_1]; decide)
theorem Read5_5_ok {m c f k : Nat} (b : Bd m c f k) (h : ReadD m c f k = 5) : @InOk Tryz.prog C_Read5_1 (TB m c f k) := by
 by_cases g0 : headD m c f k = 0
 ·by_cases g1 : (f : Int) ≤ (100)
  ·by_cases g2 : (f : Int) > (0)
   ·exact absurd h (by unfold ReadD; rw [if_pos g0, if_pos g1, if_pos g2]; decide)
   ·exact absurd h (by unfold ReadD; rw [if_pos g0, if_pos g1, if_neg g2]; decide)
  ·by_cases g2 : (f : Int) > (0)
   ·exact absurd h (by unfold ReadD; rw [if_pos g0, if_neg g1, if_pos g2]; decide)
   ·exact absurd h (by unfold ReadD; rw [if_pos g0, if_neg g1, if_neg g2]; decide)
 have g0_0 := g0
 by_cases g0 : headD m c f k = 1
 ·by_cases g1 : fieldD m c f k = 0
  ·by_cases g2 : methodD m c f k = 0
   ·exact absurd h (by unfold ReadD; rw [if_neg g0_0, if_pos g0, if_pos g1, if_pos g2]; decide)
   have g2_0 := g2
   by_cases g2 : methodD m c f k = 1
   ·exact absurd h (by unfold ReadD; rw [if_neg g0_0, if_pos g0, if_pos g1, if_neg g2_0, if_pos g2]; decide)
   have g2_1 := g2
   by_cases g2 : methodD m c f k = 2
   ·exact absurd h (by unfold ReadD; rw [if_neg g0_0, if_pos g0, if_pos g1, if_neg g2_0, if_neg g2_1, if_pos g2]; decide)
   have g2_2 := g2
   by_cases g2 : methodD m c f k = 3
   ·exact absurd h (by unfold ReadD; rw [if_neg g0_0, if_pos g0, if_pos g1, if_neg g2_0, if_neg g2_1, if_neg g2_2, if_pos g2]; decide)
   have g2_3 := g2
   by_cases g2 : methodD m c f k = 4
   ·exact absurd h (by unfold ReadD; rw [if_neg g0_0, if_pos g0, if_pos g1, if_neg g2_0, if_neg g2_1, if_neg g2_2, if_neg g2_3, if_pos g2]; decide)
   have g2_4 := g2
   by_cases g2 : methodD m c f k = 5
   ·exact absurd h (by unfold ReadD; rw [if_neg g0_0, if_pos g0, if_pos g1, if_neg g2_0, if_neg g2_1, if_neg g2_2, if_neg g2_3, if_neg g2_4, if_pos g2]; decide)
   have g2_5 := g2
   by_cases g2 : methodD m c f k = 6
   ·exact L_Read5_23 b (head6_1_ok b g0) (field4_0_ok b g1) (method4_6_ok b g2)
   have g2_6 := g2
   exact absurd h (by unfold ReadD; rw [if_neg g0_0, if_pos g0, if_pos g1, if_neg g2_0, if_neg g2_1, if_neg g2_2, if_neg g2_3, if_neg g2_4, if_neg g2_5, if_neg g2_6]; decide)
  have g1_0 := g1
  by_cases g1 : fieldD m c f k = 1
  ·by_cases g2 : (k : Int) > (0)
   ·exact absurd h (by unfold ReadD; rw [if_neg g0_0, if_pos g0, if_neg g1_0, if_pos g1, if_pos g2]; decide)
   ·exact absurd h (by unfold ReadD; rw [if_neg g0_0, if_pos g0, if_neg g1_0, if_pos g1, if_neg g2]; decide)
  have g1_1 := g1
  exact absurd h (by unfold ReadD; rw [if_neg g0_0, if_pos g0, if_neg g1_0, if_neg g1_1]; decide)
 have g0_1 := g0
 exact absurd h (by unfold ReadD; rw [if_neg g0_0, if_neg g0_1]; decide)
theorem Read1_6_ok {m c f k : Nat} (b : Bd m c f k) (h : ReadD m c f k = 6) : @InOk Tryz.prog C_Read1_4 (TB m c f k) := by
 by_cases g0 : headD m c f k = 0
 ·by_cases g1 : (f : Int) ≤ (100)
  ·by_cases g2 : (f : Int) > (0)
   ·exact absurd h (by unfold ReadD; rw [if_pos g0, if_pos g1, if_pos g2]; decide)
   ·exact absurd h (by unfold ReadD; rw [if_pos g0, if_pos g1, if_neg g2]; decide)
  ·by_cases g2 : (f : Int) > (0)
   ·exact absurd h (by unfold ReadD; rw [if_pos g0, if_neg g1, if_pos g2]; decide)
   ·exact absurd h (by unfold ReadD; rw [if_pos g0, if_neg g1, if_neg g2]; decide)
 have g0_0 := g0
 by_cases g0 : headD m c f k = 1
 ·by_cases g1 : fieldD m c f k = 0
  ·by_cases g2 : methodD m c f k = 0
   ·exact absurd h (by unfold ReadD; rw [if_neg g0_0, if_pos g0, if_pos g1, if_pos g2]; decide)
   have g2_0 := g2
   by_cases g2 : methodD m c f k = 1
   ·exact absurd h (by unfold ReadD; rw [if_neg g0_0, if_pos g0, if_pos g1, if_neg g2_0, if_pos g2]; decide)
   have g2_1 := g2
   by_cases g2 : methodD m c f k = 2
   ·exact absurd h (by unfold ReadD; rw [if_neg g0_0, if_pos g0, if_pos g1, if_neg g2_0, if_neg g2_1, if_pos g2]; decide)
   have g2_2 := g2
   by_cases g2 : methodD m c f k = 3
   ·exact absurd h (by unfold ReadD; rw [if_neg g0_0, if_pos g0, if_pos g1, if_neg g2_0, if_neg g2_1, if_neg g2_2, if_pos g2]; decide)
   have g2_3 := g2
   by_cases g2 : methodD m c f k = 4
   ·exact absurd h (by unfold ReadD; rw [if_neg g0_0, if_pos g0, if_pos g1, if_neg g2_0, if_neg g2_1, if_neg g2_2, if_neg g2_3, if_pos g2]; decide)
   have g2_4 := g2
   by_cases g2 : methodD m c f k = 5
   ·exact absurd h (by unfold ReadD; rw [if_neg g0_0, if_pos g0, if_pos g1, if_neg g2_0, if_neg g2_1, if_neg g2_2, if_neg g2_3, if_neg g2_4, if_pos g2]; decide)
   have g2_5 := g2
   by_cases g2 : methodD m c f k = 6
   ·exact absurd h (by unfold ReadD; rw [if_neg g0_0, if_pos g0, if_pos g1, if_neg g2_0, if_neg g2_1, if_neg g2_2, if_neg g2_3, if_neg g2_4, if_neg g2_5, if_pos g2]; decide)
   have g2_6 := g2
   exact absurd h (by unfold ReadD; rw [if_neg g0_0, if_pos g0, if_pos g1, if_neg g2_0, if_neg g2_1, if_neg g2_2, if_neg g2_3, if_neg g2_4, if_neg g2_5, if_neg g2_6]; decide)
  have g1_0 := g1
  by_cases g1 : fieldD m c f k = 1
  ·by_cases g2 : (k : Int) > (0)
   ·exact absurd h (by unfold ReadD; rw [if_neg g0_0, if_pos g0, if_neg g1_0, if_pos g1, if_pos g2]; decide)
   ·exact L_Read1_24 b (head2_1_ok b g0) (field3_1_ok b g1) g2
  have g1_1 := g1
  exact absurd h (by unfold ReadD; rw [if_neg g0_0, if_pos g0, if_neg g1_0, if_neg g1_1]; decide)
 have g0_1 := g0
 exact absurd h (by unfold ReadD; rw [if_neg g0_0, if_neg g0_1]; decide)
theorem Read6_6_ok {m c f k : Nat} (b : Bd m c f k) (h : ReadD m c f k = 6) : @InOk Tryz.prog C_Read6_0 (TB m c f k) := by
 by_cases g0 : headD m c f k = 0
 ·by_cases g1 : (f : Int) ≤ (100)
  ·by_cases g2 : (f : Int) > (0)
   ·exact absurd h (by unfold ReadD; rw [if_pos g0, if_pos g1, if_pos g2]; decide)
   ·exact absurd h (by unfold ReadD; rw [if_pos g0, if_pos g1, if_neg g2]; decide)
  ·by_cases g2 : (f : Int) > (0)
   ·exact absurd h (by unfold ReadD; rw [if_pos g0, if_neg g1, if_pos g2]; decide)
   ·exact absurd h (by unfold ReadD; rw [if_pos g0, if_neg g1, if_neg g2]; decide)
 have g0_0 := g0
 by_cases g0 : headD m c f k = 1
 ·by_cases g1 : fieldD m c f k = 0
  ·by_cases g2 : methodD m c f k = 0
   ·exact absurd h (by unfold ReadD; rw [if_neg g0_0, if_pos g0, if_pos g1, if_pos g2]; decide)
   have g2_0 := g2
   by_cases g2 : methodD m c f k = 1
   ·exact absurd h (by unfold ReadD; rw [if_neg g0_0, if_pos g0, if_pos g1, if_neg g2_0, if_pos g2]; decide)
   have g2_1 := g2
   by_cases g2 : methodD m c f k = 2
   ·exact absurd h (by unfold ReadD; rw [if_neg g0_0, if_pos g0, if_pos g1, if_neg g2_0, if_neg g2_1, if_pos g2]; decide)
   have g2_2 := g2
   by_cases g2 : methodD m c f k = 3
   ·exact absurd h (by unfold ReadD; rw [if_neg g0_0, if_pos g0, if_pos g1, if_neg g2_0, if_neg g2_1, if_neg g2_2, if_pos g2]; decide)
   have g2_3 := g2
   by_cases g2 : methodD m c f k = 4
   ·exact absurd h (by unfold ReadD; rw [if_neg g0_0, if_pos g0, if_pos g1, if_neg g2_0, if_neg g2_1, if_neg g2_2, if_neg g2_3, if_pos g2]; decide)
   have g2_4 := g2
   by_cases g2 : methodD m c f k = 5
   ·exact absurd h (by unfold ReadD; rw [if_neg g0_0, if_pos g0, if_pos g1, if_neg g2_0, if_neg g2_1, if_neg g2_2, if_neg g2_3, if_neg g2_4, if_pos g2]; decide)
   have g2_5 := g2
   by_cases g2 : methodD m c f k = 6
   ·exact absurd h (by unfold ReadD; rw [if_neg g0_0, if_pos g0, if_pos g1, if_neg g2_0, if_neg g2_1, if_neg g2_2, if_neg g2_3, if_neg g2_4, if_neg g2_5, if_pos g2]; decide)
   have g2_6 := g2
   exact absurd h (by unfold ReadD; rw [if_neg g0_0, if_pos g0, if_pos g1, if_neg g2_0, if_neg g2_1, if_neg g2_2, if_neg g2_3, if_neg g2_4, if_neg g2_5, if_neg g2_6]; decide)
  have g1_0 := g1
  by_cases g1 : fieldD m c f k = 1
  ·by_cases g2 : (k : Int) > (0)
   ·exact absurd h (by unfold ReadD; rw [if_neg g0_0, if_pos g0, if_neg g1_0, if_pos g1, if_pos g2]; decide)
   ·exact L_Read6_25 b (head7_1_ok b g0) (field5_1_ok b g1) g2
  have g1_1 := g1
  exact absurd h (by unfold ReadD; rw [if_neg g0_0, if_pos g0, if_neg g1_0, if_neg g1_1]; decide)
 have g0_1 := g0
 exact absurd h (by unfold ReadD; rw [if_neg g0_0, if_neg g0_1]; decide)
theorem Read3_7_ok {m c f k : Nat} (b : Bd m c f k) (h : ReadD m c f k = 7) : @InOk Tryz.prog C_Read3_0 (TB m c f k) := by
 by_cases g0 : headD m c f k = 0
 ·by_cases g1 : (f : Int) ≤ (100)
  ·by_cases g2 : (f : Int) > (0)
   ·exact absurd h (by unfold ReadD; rw [if_pos g0, if_pos g1, if_pos g2]; decide)
   ·exact absurd h (by unfold ReadD; rw [if_pos g0, if_pos g1, if_neg g2]; decide)
  ·by_cases g2 : (f : Int) > (0)
   ·exact absurd h (by unfold ReadD; rw [if_pos g0, if_neg g1, if_pos g2]; decide)
   ·exact absurd h (by unfold ReadD; rw [if_pos g0, if_neg g1, if_neg g2]; decide)
 have g0_0 := g0
 by_cases g0 : headD m c f k = 1
 ·by_cases g1 : fieldD m c f k = 0
  ·by_cases g2 : methodD m c f k = 0
   ·exact L_Read3_27 b (head3_1_ok b g0) (field2_0_ok b g1) (method2_0_ok b g2)
   have g2_0 := g2
   by_cases g2 : methodD m c f k = 1
   ·exact absurd h (by unfold ReadD; rw [if_neg g0_0, if_pos g0, if_pos g1, if_neg g2_0, if_pos g2]; decide)
   have g2_1 := g2
   by_cases g2 : methodD m c f k = 2
   ·exact absurd h (by unfold ReadD; rw [if_neg g0_0, if_pos g0, if_pos g1, if_neg g2_0, if_neg g2_1, if_pos g2]; decide)
   have g2_2 := g2
   by_cases g2 : methodD m c f k = 3
   ·exact absurd h (by unfold ReadD; rw [if_neg g0_0, if_pos g0, if_pos g1, if_neg g2_0, if_neg g2_1, if_neg g2_2, if_pos g2]; decide)
   have g2_3 := g2
   by_cases g2 : methodD m c f k = 4
   ·exact absurd h (by unfold ReadD; rw [if_neg g0_0, if_pos g0, if_pos g1, if_neg g2_0, if_neg g2_1, if_neg g2_2, if_neg g2_3, if_pos g2]; decide)
   have g2_4 := g2
   by_cases g2 : methodD m c f k = 5
   ·exact absurd h (by unfold ReadD; rw [if_neg g0_0, if_pos g0, if_pos g1, if_neg g2_0, if_neg g2_1, if_neg g2_2, if_neg g2_3, if_neg g2_4, if_pos g2]; decide)
   have g2_5 := g2
   by_cases g2 : methodD m c f k = 6
   ·exact absurd h (by unfold ReadD; rw [if_neg g0_0, if_pos g0, if_pos g1, if_neg g2_0, if_neg g2_1, if_neg g2_2, if_neg g2_3, if_neg g2_4, if_neg g2_5, if_pos g2]; decide)
   have g2_6 := g2
   exact absurd h (by unfold ReadD; rw [if_neg g0_0, if_pos g0, if_pos g1, if_neg g2_0, if_neg g2_1, if_neg g2_2, if_neg g2_3, if_neg g2_4, if_neg g2_5, if_neg g2_6]; decide)
  have g1_0 := g1
  by_cases g1 : fieldD m c f k = 1
  ·by_cases g2 : (k : Int) > (0)
   ·exact absurd h (by unfold ReadD; rw [if_neg g0_0, if_pos g0, if_neg g1_0, if_pos g1, if_pos g2]; decide)
   ·exact absurd h (by unfold ReadD; rw [if_neg g0_0, if_pos g0, if_neg g1_0, if_pos g1, if_neg g2]; decide)
  have g1_1 := g1
  exact absurd h (by unfold ReadD; rw [if_neg g0_0, if_pos g0, if_neg g1_0, if_neg g1_1]; decide)
 have g0_1 := g0
 exact absurd h (by unfold ReadD; rw [if_neg g0_0, if_neg g0_1]; decide)
theorem Read2_7_ok {m c f k : Nat} (b : Bd m c f k) (h : ReadD m c f k = 7) : @InOk Tryz.prog C_Read2_0 (TB m c f k) := by
 by_cases g0 : headD m c f k = 0
 ·by_cases g1 : (f : Int) ≤ (100)
  ·by_cases g2 : (f : Int) > (0)
   ·exact absurd h (by unfold ReadD; rw [if_pos g0, if_pos g1, if_pos g2]; decide)
   ·exact absurd h (by unfold ReadD; rw [if_pos g0, if_pos g1, if_neg g2]; decide)
  ·by_cases g2 : (f : Int) > (0)
   ·exact absurd h (by unfold ReadD; rw [if_pos g0, if_neg g1, if_pos g2]; decide)
   ·exact absurd h (by unfold ReadD; rw [if_pos g0, if_neg g1, if_neg g2]; decide)
 have g0_0 := g0
 by_cases g0 : headD m c f k = 1
 ·by_cases g1 : fieldD m c f k = 0
  ·by_cases g2 : methodD m c f k = 0
   ·exact L_Read2_26 b (head4_1_ok b g0) (field0_0_ok b g1) (method0_0_ok b g2)
   have g2_0 := g2
   by_cases g2 : methodD m c f k = 1
   ·exact absurd h (by unfold ReadD; rw [if_neg g0_0, if_pos g0, if_pos g1, if_neg g2_0, if_pos g2]; decide)
   have g2_1 := g2
   by_cases g2 : methodD m c f k = 2
   ·exact absurd h (by unfold ReadD; rw [if_neg g0_0, if_pos g0, if_pos g1, if_neg g2_0, if_neg g2_1, if_pos g2]; decide)
   have g2_2 := g2
   by_cases g2 : methodD m c f k = 3
   ·exact absurd h (by unfold ReadD; rw [if_neg g0_0, if_pos g0, if_pos g1, if_neg g2_0, if_neg g2_1, if_neg g2_2, if_pos g2]; decide)
   have g2_3 := g2
   by_cases g2 : methodD m c f k = 4
   ·exact absurd h (by unfold ReadD; rw [if_neg g0_0, if_pos g0, if_pos g1, if_neg g2_0, if_neg g2_1, if_neg g2_2, if_neg g2_3, if_pos g2]; decide)
   have g2_4 := g2
   by_cases g2 : methodD m c f k = 5
   ·exact absurd h (by unfold ReadD; rw [if_neg g0_0, if_pos g0, if_pos g1, if_neg g2_0, if_neg g2_1, if_neg g2_2, if_neg g2_3, if_neg g2_4, if_pos g2]; decide)
   have g2_5 := g2
   by_cases g2 : methodD m c f k = 6
   ·exact absurd h (by unfold ReadD; rw [if_neg g0_0, if_pos g0, if_pos g1, if_neg g2_0, if_neg g2_1, if_neg g2_2, if_neg g2_3, if_neg g2_4, if_neg g2_5, if_pos g2]; decide)
   have g2_6 := g2
   exact absurd h (by unfold ReadD; rw [if_neg g0_0, if_pos g0, if_pos g1, if_neg g2_0, if_neg g2_1, if_neg g2_2, if_neg g2_3, if_neg g2_4, if_neg g2_5, if_neg g2_6]; decide)
  have g1_0 := g1
  by_cases g1 : fieldD m c f k = 1
  ·by_cases g2 : (k : Int) > (0)
   ·exact absurd h (by unfold ReadD; rw [if_neg g0_0, if_pos g0, if_neg g1_0, if_pos g1, if_pos g2]; decide)
   ·exact absurd h (by unfold ReadD; rw [if_neg g0_0, if_pos g0, if_neg g1_0, if_pos g1, if_neg g2]; decide)
  have g1_1 := g1
  exact absurd h (by unfold ReadD; rw [if_neg g0_0, if_pos g0, if_neg g1_0, if_neg g1_1]; decide)
 have g0_1 := g0
 exact absurd h (by unfold ReadD; rw [if_neg g0_0, if_neg g0_1]; decide)
theorem Read3_8_ok {m c f k : Nat} (b : Bd m c f k) (h : ReadD m c f k = 8) : @InOk Tryz.prog C_Read3_1 (TB m c f k) := by
 by_cases g0 : headD m c f k = 0
 ·by_cases g1 : (f : Int) ≤ (100)
  ·by_cases g2 : (f : Int) > (0)
   ·exact absurd h (by unfold ReadD; rw [if_pos g0, if_pos g1, if_pos g2]; decide)
   ·exact absurd h (by unfold ReadD; rw [if_pos g0, if_pos g1, if_neg g2]; decide)
  ·by_cases g2 : (f : Int) > (0)
   ·exact absurd h (by unfold ReadD; rw [if_pos g0, if_neg g1, if_pos g2]; decide)
   ·exact absurd h (by unfold ReadD; rw [if_pos g0, if_neg g1, if_neg g2]; decide)
 have g0_0 := g0
 by_cases g0 : headD m c f k = 1
 ·by_cases g1 : fieldD m c f k = 0
  ·by_cases g2 : methodD m c f k = 0
   ·exact absurd h (by unfold ReadD; rw [if_neg g0_0, if_pos g0, if_pos g1, if_pos g2]; decide)
   have g2_0 := g2
   by_cases g2 : methodD m c f k = 1
   ·exact L_Read3_29 b (head3_1_ok b g0) (field2_0_ok b g1) (method2_1_ok b g2)
   have g2_1 := g2
   by_cases g2 : methodD m c f k = 2
   ·exact absurd h (by unfold ReadD; rw [if_neg g0_0, if_pos g0, if_pos g1, if_neg g2_0, if_neg g2_1, if_pos g2]; decide)
   have g2_2 := g2
   by_cases g2 : methodD m c f k = 3
   ·exact absurd h (by unfold ReadD; rw [if_neg g0_0, if_pos g0, if_pos g1, if_neg g2_0, if_neg g2_1, if_neg g2_2, if_pos g2]; decide)
   have g2_3 := g2
   by_cases g2 : methodD m c f k = 4
   ·exact absurd h (by unfold ReadD; rw [if_neg g0_0, if_pos g0, if_pos g1, if_neg g2_0, if_neg g2_1, if_neg g2_2, if_neg g2_3, if_pos g2]; decide)
   have g2_4 := g2
   by_cases g2 : methodD m c f k = 5
   ·exact absurd h (by unfold ReadD; rw [if_neg g0_0, if_pos g0, if_pos g1, if_neg g2_0, if_neg g2_1, if_neg g2_2, if_neg g2_3, if_neg g2_4, if_pos g2]; decide)
   have g2_5 := g2
   by_cases g2 : methodD m c f k = 6
   ·exact absurd h (by unfold ReadD; rw [if_neg g0_0, if_pos g0, if_pos g1, if_neg g2_0, if_neg g2_1, if_neg g2_2, if_neg g2_3, if_neg g2_4, if_neg g2_5, if_pos g2]; decide)
   have g2_6 := g2
   exact absurd h (by unfold ReadD; rw [if_neg g0_0, if_pos g0, if_pos g1, if_neg g2_0, if_neg g2_1, if_neg g2_2, if_neg g2_3, if_neg g2_4, if_neg g2_5, if_neg g2_6]; decide)
  have g1_0 := g1
  by_cases g1 : fieldD m c f k = 1
  ·by_cases g2 : (k : Int) > (0)
   ·exact absurd h (by unfold ReadD; rw [if_neg g0_0, if_pos g0, if_neg g1_0, if_pos g1, if_pos g2]; decide)
   ·exact absurd h (by unfold ReadD; rw [if_neg g0_0, if_pos g0, if_neg g1_0, if_pos g1, if_neg g2]; decide)
  have g1_1 := g1
  exact absurd h (by unfold ReadD; rw [if_neg g0_0, if_pos g0, if_neg g1_0, if_neg g1_1]; decide)
 have g0_1 := g0
 exact absurd h (by unfold ReadD; rw [if_neg g0_0, if_neg g0_1]; decide)
theorem Read2_8_ok {m c f k : Nat} (b : Bd m c f k) (h : ReadD m c f k = 8) : @InOk Tryz.prog C_Read2_1 (TB m c f k) := by
 by_cases g0 : headD m c f k = 0
 ·by_cases g1 : (f : Int) ≤ (100)
  ·by_cases g2 : (f : Int) > (0)
   ·exact absurd h (by unfold ReadD; rw [if_pos g0, if_pos g1, if_pos g2]; decide)
   ·exact absurd h (by unfold ReadD; rw [if_pos g0, if_pos g1, if_neg g2]; decide)
  ·by_cases g2 : (f : Int) > (0)
   ·exact absurd h (by unfold ReadD; rw [if_pos g0, if_neg g1, if_pos g2]; decide)
   ·exact absurd h (by unfold ReadD; rw [if_pos g0, if_neg g1, if_neg g2]; decide)
 have g0_0 := g0
 by_cases g0 : headD m c f k = 1
 ·by_cases g1 : fieldD m c f k = 0
  ·by_cases g2 : methodD m c f k = 0
   ·exact absurd h (by unfold ReadD; rw [if_neg g0_0, if_pos g0, if_pos g1, if_pos g2]; decide)
   have g2_0 := g2
   by_cases g2 : methodD m c f k = 1
   ·exact L_Read2_28 b (head4_1_ok b g0) (field0_0_ok b g1) (method0_1_ok b g2)
   have g2_1 := g2
   by_cases g2 : methodD m c f k = 2
   ·exact absurd h (by unfold ReadD; rw [if_neg g0_0, if_pos g0, if_pos g1, if_neg g2_0, if_neg g2_1, if_pos g2]; decide)
   have g2_2 := g2
   by_cases g2 : methodD m c f k = 3
   ·exact absurd h (by unfold ReadD; rw [if_neg g0_0, if_pos g0, if_pos g1, if_neg g2_0, if_neg g2_1, if_neg g2_2, if_pos g2]; decide)
   have g2_3 := g2
   by_cases g2 : methodD m c f k = 4
   ·exact absurd h (by unfold ReadD; rw [if_neg g0_0, if_pos g0, if_pos g1, if_neg g2_0, if_neg g2_1, if_neg g2_2, if_neg g2_3, if_pos g2]; decide)
   have g2_4 := g2
   by_cases g2 : methodD m c f k = 5
   ·exact absurd h (by unfold ReadD; rw [if_neg g0_0, if_pos g0, if_pos g1, if_neg g2_0, if_neg g2_1, if_neg g2_2, if_neg g2_3, if_neg g2_4, if_pos g2]; decide)
   have g2_5 := g2
   by_cases g2 : methodD m c f k = 6
   ·exact absurd h (by unfold ReadD; rw [if_neg g0_0, if_pos g0, if_pos g1, if_neg g2_0, if_neg g2_1, if_neg g2_2, if_neg g2_3, if_neg g2_4, if_neg g2_5, if_pos g2]; decide)
   have g2_6 := g2
   exact absurd h (by unfold ReadD; rw [if_neg g0_0, if_pos g0, if_pos g1, if_neg g2_0, if_neg g2_1, if_neg g2_2, if_neg g2_3, if_neg g2_4, if_neg g2_5, if_neg g2_6]; decide)
  have g1_0 := g1
  by_cases g1 : fieldD m c f k = 1
  ·by_cases g2 : (k : Int) > (0)
   ·exact absurd h (by unfold ReadD; rw [if_neg g0_0, if_pos g0, if_neg g1_0, if_pos g1, if_pos g2]; decide)
   ·exact absurd h (by unfold ReadD; rw [if_neg g0_0, if_pos g0, if_neg g1_0, if_pos g1, if_neg g2]; decide)
  have g1_1 := g1
  exact absurd h (by unfold ReadD; rw [if_neg g0_0, if_pos g0, if_neg g1_0, if_neg g1_1]; decide)
 have g0_1 := g0
 exact absurd h (by unfold ReadD; rw [if_neg g0_0, if_neg g0_1]; decide)
theorem Read3_9_ok {m c f k : Nat} (b : Bd m c f k) (h : ReadD m c f k = 9) : @InOk Tryz.prog C_Read3_2 (TB m c f k) := by
 by_cases g0 : headD m c f k = 0
 ·by_cases g1 : (f : Int) ≤ (100)
  ·by_cases g2 : (f : Int) > (0)
   ·exact absurd h (by unfold ReadD; rw [if_pos g0, if_pos g1, if_pos g2]; decide)
   ·exact absurd h (by unfold ReadD; rw [if_pos g0, if_pos g1, if_neg g2]; decide)
  ·by_cases g2 : (f : Int) > (0)
   ·exact absurd h (by unfold ReadD; rw [if_pos g0, if_neg g1, if_pos g2]; decide)
   ·exact absurd h (by unfold ReadD; rw [if_pos g0, if_neg g1, if_neg g2]; decide)
 have g0_0 := g0
 by_cases g0 : headD m c f k = 1
 ·by_cases g1 : fieldD m c f k = 0
  ·by_cases g2 : methodD m c f k = 0
   ·exact absurd h (by unfold ReadD; rw [if_neg g0_0, if_pos g0, if_pos g1, if_pos g2]; decide)
   have g2_0 := g2
   by_cases g2 : methodD m c f k = 1
   ·exact absurd h (by unfold ReadD; rw [if_neg g0_0, if_pos g0, if_pos g1, if_neg g2_0, if_pos g2]; decide)
   have g2_1 := g2
   by_cases g2 : methodD m c f k = 2
   ·exact L_Read3_31 b (head3_1_ok b g0) (field2_0_ok b g1) (method2_2_ok b g2)
   have g2_2 := g2
   by_cases g2 : methodD m c f k = 3
   ·exact absurd h (by unfold ReadD; rw [if_neg g0_0, if_pos g0, if_pos g1, if_neg g2_0, if_neg g2_1, if_neg g2_2, if_pos g2]; decide)
   have g2_3 := g2
   by_cases g2 : methodD m c f k = 4
   ·exact absurd h (by unfold ReadD; rw [if_neg g0_0, if_pos g0, if_pos g1, if_neg g2_0, if_neg g2_1, if_neg g2_2, if_neg g2_3, if_pos g2]; decide)
   have g2_4 := g2
   by_cases g2 : methodD m c f k = 5
   ·exact absurd h (by unfold ReadD; rw [if_neg g0_0, if_pos g0, if_pos g1, if_neg g2_0, if_neg g2_1, if_neg g2_2, if_neg g2_3, if_neg g2_4, if_pos g2]; decide)
   have g2_5 := g2
   by_cases g2 : methodD m c f k = 6
   ·exact absurd h (by unfold ReadD; rw [if_neg g0_0, if_pos g0, if_pos g1, if_neg g2_0, if_neg g2_1, if_neg g2_2, if_neg g2_3, if_neg g2_4, if_neg g2_5, if_pos g2]; decide)
   have g2_6 := g2
   exact absurd h (by unfold ReadD; rw [if_neg g0_0, if_pos g0, if_pos g1, if_neg g2_0, if_neg g2_1, if_neg g2_2, if_neg g2_3, if_neg g2_4, if_neg g2_5, if_neg g2_6]; decide)
  have g1_0 := g1
  by_cases g1 : fieldD m c f k = 1
  ·by_cases g2 : (k : Int) > (0)
   ·exact absurd h (by unfold ReadD; rw [if_neg g0_0, if_pos g0, if_neg g1_0, if_pos g1, if_pos g2]; decide)
   ·exact absurd h (by unfold ReadD; rw [if_neg g0_0, if_pos g0, if_neg g1_0, if_pos g1, if_neg g2]; decide)
  have g1_1 := g1
  exact absurd h (by unfold ReadD; rw [if_neg g0_0, if_pos g0, if_neg g1_0, if_neg g1_1]; decide)
 have g0_1 := g0
 exact absurd h (by unfold ReadD; rw [if_neg g0_0, if_neg g0_1]; decide)
theorem Read2_9_ok {m c f k : Nat} (b : Bd m c f k) (h : ReadD m c f k = 9) : @InOk Tryz.prog C_Read2_2 (TB m c f k) := by
 by_cases g0 : headD m c f k = 0
 ·by_cases g1 : (f : Int) ≤ (100)
  ·by_cases g2 : (f : Int) > (0)
   ·exact absurd h (by unfold ReadD; rw [if_pos g0, if_pos g1, if_pos g2]; decide)
   ·exact absurd h (by unfold ReadD; rw [if_pos g0, if_pos g1, if_neg g2]; decide)
  ·by_cases g2 : (f : Int) > (0)
   ·exact absurd h (by unfold ReadD; rw [if_pos g0, if_neg g1, if_pos g2]; decide)
   ·exact absurd h (by unfold ReadD; rw [if_pos g0, if_neg g1, if_neg g2]; decide)
 have g0_0 := g0
 by_cases g0 : headD m c f k = 1
 ·by_cases g1 : fieldD m c f k = 0
  ·by_cases g2 : methodD m c f k = 0
   ·exact absurd h (by unfold ReadD; rw [if_neg g0_0, if_pos g0, if_pos g1, if_pos g2]; decide)
   have g2_0 := g2
   by_cases g2 : methodD m c f k = 1
   ·exact absurd h (by unfold ReadD; rw [if_neg g0_0, if_pos g0, if_pos g1, if_neg g2_0, if_pos g2]; decide)
   have g2_1 := g2
   by_cases g2 : methodD m c f k = 2
   ·exact L_Read2_30 b (head4_1_ok b g0) (field0_0_ok b g1) (method0_2_ok b g2)
   have g2_2 := g2
   by_cases g2 : methodD m c f k = 3
   ·exact absurd h (by unfold ReadD; rw [if_neg g0_0, if_pos g0, if_pos g1, if_neg g2_0, if_neg g2_1, if_neg g2_2, if_pos g2]; decide)
   have g2_3 := g2
   by_cases g2 : methodD m c f k = 4
   ·exact absurd h (by unfold ReadD; rw [if_neg g0_0, if_pos g0, if_pos g1, if_neg g2_0, if_neg g2_1, if_neg g2_2, if_neg g2_3, if_pos g2]; decide)
   have g2_4 := g2
   by_cases g2 : methodD m c f k = 5
   ·exact absurd h (by unfold ReadD; rw [if_neg g0_0, if_pos g0, if_pos g1, if_neg g2_0, if_neg g2_1, if_neg g2_2, if_neg g2_3, if_neg g2_4, if_pos g2]; decide)
   have g2_5 := g2
   by_cases g2 : methodD m c f k = 6
   ·exact absurd h (by unfold ReadD; rw [if_neg g0_0, if_pos g0, if_pos g1, if_neg g2_0, if_neg g2_1, if_neg g2_2, if_neg g2_3, if_neg g2_4, if_neg g2_5, if_pos g2]; decide)
   have g2_6 := g2
   exact absurd h (by unfold ReadD; rw [if_neg g0_0, if_pos g0, if_pos g1, if_neg g2_0, if_neg g2_1, if_neg g2_2, if_neg g2_3, if_neg g2_4, if_neg g2_5, if_neg g2_6]; decide)
  have g1_0 := g1
  by_cases g1 : fieldD m c f k = 1
  ·by_cases g2 : (k : Int) > (0)
   ·exact absurd h (by unfold ReadD; rw [if_neg g0_0, if_pos g0, if_neg g1_0, if_pos g1, if_pos g2]; decide)
   ·exact absurd h (by unfold ReadD; rw [if_neg g0_0, if_pos g0, if_neg g1_0, if_pos g1, if_neg g2]; decide)
  have g1_1 := g1
  exact absurd h (by unfold ReadD; rw [if_neg g0_0, if_pos g0, if_neg g1_0, if_neg g1_1]; decide)
 have g0_1 := g0
 exact absurd h (by unfold ReadD; rw [if_neg g0_0, if_neg g0_1]; decide)
end Go.Proofs.YtlfinnicdpiaaaaGreatDoor.cf
