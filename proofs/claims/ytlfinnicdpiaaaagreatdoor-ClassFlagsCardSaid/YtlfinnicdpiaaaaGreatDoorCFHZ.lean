/-
  What head gives, whatever the flags.
-/
import Derived.Test.YtlfinnicdpiaaaaGreatDoorXN3
import Derived.Test.YtlfinnicdpiaaaaGreatDoorCFB
import Derived.Test.YtlfinnicdpiaaaaGreatDoorCFH0
import Derived.Test.YtlfinnicdpiaaaaGreatDoorCFH1
import Derived.KernelRfl
set_option linter.unusedVariables false
set_option linter.unusedSimpArgs false
set_option maxRecDepth 1000000
set_option maxHeartbeats 0
namespace Go.Proofs.YtlfinnicdpiaaaaGreatDoor.cf
open Go.X Go.RowKit
theorem head2_0_ok {m c f k : Nat} (b : Bd m c f k) (h : headD m c f k = 0) : @InOk Tryz.prog C_head2_0 (TB m c f k) := by
 by_cases g0 : vA c 512 = (0)
 ·by_cases g1 : vA c 1024 = (0)
  ·by_cases g2 : vA c 16 = (0)
   ·by_cases g3 : vN c 1585 = (0)
    ·exact absurd h (by unfold headD; rw [if_pos g0, if_pos g1, if_pos g2, if_pos g3]; decide)
    ·exact L_head2_18 b g0 g1 g2 g3
   ·by_cases g3 : vN c 1585 = (0)
    ·exact absurd h (by unfold headD; rw [if_pos g0, if_pos g1, if_neg g2, if_pos g3]; decide)
    ·exact L_head2_14 b g0 g1 g2 g3
  ·by_cases g2 : vA c 16 = (0)
   ·by_cases g3 : vN c 1585 = (0)
    ·exact absurd h (by unfold headD; rw [if_pos g0, if_neg g1, if_pos g2, if_pos g3]; decide)
    ·exact L_head2_26 b g0 g1 g2 g3
   ·by_cases g3 : vN c 1585 = (0)
    ·exact L_head2_42 b g0 g1 g2 g3
    ·exact L_head2_6 b g0 g1 g2 g3
 ·by_cases g1 : vA c 1024 = (0)
  ·by_cases g2 : vA c 16 = (0)
   ·by_cases g3 : vN c 1585 = (0)
    ·exact L_head2_34 b g0 g1 g2 g3
    ·exact L_head2_46 b g0 g1 g2 g3
   ·by_cases g3 : vN c 1585 = (0)
    ·exact L_head2_10 b g0 g1 g2 g3
    ·exact L_head2_30 b g0 g1 g2 g3
  ·by_cases g2 : vA c 16 = (0)
   ·by_cases g3 : vN c 1585 = (0)
    ·exact absurd h (by unfold headD; rw [if_neg g0, if_neg g1, if_pos g2, if_pos g3]; decide)
    ·exact L_head2_2 b g0 g1 g2 g3
   ·by_cases g3 : vN c 1585 = (0)
    ·exact L_head2_22 b g0 g1 g2 g3
    ·exact L_head2_38 b g0 g1 g2 g3
theorem head3_0_ok {m c f k : Nat} (b : Bd m c f k) (h : headD m c f k = 0) : @InOk Tryz.prog C_head3_1 (TB m c f k) := by
 by_cases g0 : vA c 512 = (0)
 ·by_cases g1 : vA c 1024 = (0)
  ·by_cases g2 : vA c 16 = (0)
   ·by_cases g3 : vN c 1585 = (0)
    ·exact absurd h (by unfold headD; rw [if_pos g0, if_pos g1, if_pos g2, if_pos g3]; decide)
    ·exact L_head3_19 b g0 g1 g2 g3
   ·by_cases g3 : vN c 1585 = (0)
    ·exact absurd h (by unfold headD; rw [if_pos g0, if_pos g1, if_neg g2, if_pos g3]; decide)
    ·exact L_head3_15 b g0 g1 g2 g3
  ·by_cases g2 : vA c 16 = (0)
   ·by_cases g3 : vN c 1585 = (0)
    ·exact absurd h (by unfold headD; rw [if_pos g0, if_neg g1, if_pos g2, if_pos g3]; decide)
    ·exact L_head3_27 b g0 g1 g2 g3
   ·by_cases g3 : vN c 1585 = (0)
    ·exact L_head3_43 b g0 g1 g2 g3
    ·exact L_head3_7 b g0 g1 g2 g3
 ·by_cases g1 : vA c 1024 = (0)
  ·by_cases g2 : vA c 16 = (0)
   ·by_cases g3 : vN c 1585 = (0)
    ·exact L_head3_35 b g0 g1 g2 g3
    ·exact L_head3_47 b g0 g1 g2 g3
   ·by_cases g3 : vN c 1585 = (0)
    ·exact L_head3_11 b g0 g1 g2 g3
    ·exact L_head3_31 b g0 g1 g2 g3
  ·by_cases g2 : vA c 16 = (0)
   ·by_cases g3 : vN c 1585 = (0)
    ·exact absurd h (by unfold headD; rw [if_neg g0, if_neg g1, if_pos g2, if_pos g3]; decide)
    ·exact L_head3_3 b g0 g1 g2 g3
   ·by_cases g3 : vN c 1585 = (0)
    ·exact L_head3_23 b g0 g1 g2 g3
    ·exact L_head3_39 b g0 g1 g2 g3
theorem head0_0_ok {m c f k : Nat} (b : Bd m c f k) (h : headD m c f k = 0) : @InOk Tryz.prog C_head0_0 (TB m c f k) := by
 by_cases g0 : vA c 512 = (0)
 ·by_cases g1 : vA c 1024 = (0)
  ·by_cases g2 : vA c 16 = (0)
   ·by_cases g3 : vN c 1585 = (0)
    ·exact absurd h (by unfold headD; rw [if_pos g0, if_pos g1, if_pos g2, if_pos g3]; decide)
    ·exact L_head0_16 b g0 g1 g2 g3
   ·by_cases g3 : vN c 1585 = (0)
    ·exact absurd h (by unfold headD; rw [if_pos g0, if_pos g1, if_neg g2, if_pos g3]; decide)
    ·exact L_head0_12 b g0 g1 g2 g3
  ·by_cases g2 : vA c 16 = (0)
   ·by_cases g3 : vN c 1585 = (0)
    ·exact absurd h (by unfold headD; rw [if_pos g0, if_neg g1, if_pos g2, if_pos g3]; decide)
    ·exact L_head0_24 b g0 g1 g2 g3
   ·by_cases g3 : vN c 1585 = (0)
    ·exact L_head0_40 b g0 g1 g2 g3
    ·exact L_head0_4 b g0 g1 g2 g3
 ·by_cases g1 : vA c 1024 = (0)
  ·by_cases g2 : vA c 16 = (0)
   ·by_cases g3 : vN c 1585 = (0)
    ·exact L_head0_32 b g0 g1 g2 g3
    ·exact L_head0_44 b g0 g1 g2 g3
   ·by_cases g3 : vN c 1585 = (0)
    ·exact L_head0_8 b g0 g1 g2 g3
    ·exact L_head0_28 b g0 g1 g2 g3
  ·by_cases g2 : vA c 16 = (0)
   ·by_cases g3 : vN c 1585 = (0)
    ·exact absurd h (by unfold headD; rw [if_neg g0, if_neg g1, if_pos g2, if_pos g3]; decide)
    ·exact L_head0_0 b g0 g1 g2 g3
   ·by_cases g3 : vN c 1585 = (0)
    ·exact L_head0_20 b g0 g1 g2 g3
    ·exact L_head0_36 b g0 g1 g2 g3
theorem head1_0_ok {m c f k : Nat} (b : Bd m c f k) (h : headD m c f k = 0) : @InOk Tryz.prog C_head1_0 (TB m c f k) := by
 by_cases g0 : vA c 512 = (0)
 ·by_cases g1 : vA c 1024 = (0)
  ·by_cases g2 : vA c 16 = (0)
   ·by_cases g3 : vN c 1585 = (0)
    ·exact absurd h (by unfold headD; rw [if_pos g0, if_pos g1, if_pos g2, if_pos g3]; decide)
    ·exact L_head1_17 b g0 g1 g2 g3
   ·by_cases g3 : vN c 1585 = (0)
    ·exact absurd h (by unfold headD; rw [if_pos g0, if_pos g1, if_neg g2, if_pos g3]; decide)
    ·exact L_head1_13 b g0 g1 g2 g3
  ·by_cases g2 : vA c 16 = (0)
   ·by_cases g3 : vN c 1585 = (0)
    ·exact absurd h (by unfold headD; rw [if_pos g0, if_neg g1, if_pos g2, if_pos g3]; decide)
    ·exact L_head1_25 b g0 g1 g2 g3
   ·by_cases g3 : vN c 1585 = (0)
    ·exact L_head1_41 b g0 g1 g2 g3
    ·exact L_head1_5 b g0 g1 g2 g3
 ·by_cases g1 : vA c 1024 = (0)
  ·by_cases g2 : vA c 16 = (0)
   ·by_cases g3 : vN c 1585 = (0)
    ·exact L_head1_33 b g0 g1 g2 g3
    ·exact L_head1_45 b g0 g1 g2 g3
   ·by_cases g3 : vN c 1585 = (0)
    ·exact L_head1_9 b g0 g1 g2 g3
    ·exact L_head1_29 b g0 g1 g2 g3
  ·by_cases g2 : vA c 16 = (0)
   ·by_cases g3 : vN c 1585 = (0)
    ·exact absurd h (by unfold headD; rw [if_neg g0, if_neg g1, if_pos g2, if_pos g3]; decide)
    ·exact L_head1_1 b g0 g1 g2 g3
   ·by_cases g3 : vN c 1585 = (0)
    ·exact L_head1_21 b g0 g1 g2 g3
    ·exact L_head1_37 b g0 g1 g2 g3
theorem head2_1_ok {m c f k : Nat} (b : Bd m c f k) (h : headD m c f k = 1) : @InOk Tryz.prog C_head2_1 (TB m c f k) := by
 by_cases g0 : vA c 512 = (0)
 ·by_cases g1 : vA c 1024 = (0)
  ·by_cases g2 : vA c 16 = (0)
   ·by_cases g3 : vN c 1585 = (0)
    ·exact L_head2_69 b g0 g1 g2 g3
    ·exact absurd h (by unfold headD; rw [if_pos g0, if_pos g1, if_pos g2, if_neg g3]; decide)
   ·by_cases g3 : vN c 1585 = (0)
    ·exact L_head2_62 b g0 g1 g2 g3
    ·exact absurd h (by unfold headD; rw [if_pos g0, if_pos g1, if_neg g2, if_neg g3]; decide)
  ·by_cases g2 : vA c 16 = (0)
   ·by_cases g3 : vN c 1585 = (0)
    ·exact L_head2_55 b g0 g1 g2 g3
    ·exact absurd h (by unfold headD; rw [if_pos g0, if_neg g1, if_pos g2, if_neg g3]; decide)
   ·by_cases g3 : vN c 1585 = (0)
    ·exact absurd h (by unfold headD; rw [if_pos g0, if_neg g1, if_neg g2, if_pos g3]; decide)
    ·exact absurd h (by unfold headD; rw [if_pos g0, if_neg g1, if_neg g2, if_neg g3]; decide)
 ·by_cases g1 : vA c 1024 = (0)
  ·by_cases g2 : vA c 16 = (0)
   ·by_cases g3 : vN c 1585 = (0)
    ·exact absurd h (by unfold headD; rw [if_neg g0, if_pos g1, if_pos g2, if_pos g3]; decide)
    ·exact absurd h (by unfold headD; rw [if_neg g0, if_pos g1, if_pos g2, if_neg g3]; decide)
   ·by_cases g3 : vN c 1585 = (0)
    ·exact absurd h (by unfold headD; rw [if_neg g0, if_pos g1, if_neg g2, if_pos g3]; decide)
    ·exact absurd h (by unfold headD; rw [if_neg g0, if_pos g1, if_neg g2, if_neg g3]; decide)
  ·by_cases g2 : vA c 16 = (0)
   ·by_cases g3 : vN c 1585 = (0)
    ·exact L_head2_48 b g0 g1 g2 g3
    ·exact absurd h (by unfold headD; rw [if_neg g0, if_neg g1, if_pos g2, if_neg g3]; decide)
   ·by_cases g3 : vN c 1585 = (0)
    ·exact absurd h (by unfold headD; rw [if_neg g0, if_neg g1, if_neg g2, if_pos g3]; decide)
    ·exact absurd h (by unfold headD; rw [if_neg g0, if_neg g1, if_neg g2, if_neg g3]; decide)
theorem head3_1_ok {m c f k : Nat} (b : Bd m c f k) (h : headD m c f k = 1) : @InOk Tryz.prog C_head3_0 (TB m c f k) := by
 by_cases g0 : vA c 512 = (0)
 ·by_cases g1 : vA c 1024 = (0)
  ·by_cases g2 : vA c 16 = (0)
   ·by_cases g3 : vN c 1585 = (0)
    ·exact L_head3_70 b g0 g1 g2 g3
    ·exact absurd h (by unfold headD; rw [if_pos g0, if_pos g1, if_pos g2, if_neg g3]; decide)
   ·by_cases g3 : vN c 1585 = (0)
    ·exact L_head3_63 b g0 g1 g2 g3
    ·exact absurd h (by unfold headD; rw [if_pos g0, if_pos g1, if_neg g2, if_neg g3]; decide)
  ·by_cases g2 : vA c 16 = (0)
   ·by_cases g3 : vN c 1585 = (0)
    ·exact L_head3_56 b g0 g1 g2 g3
    ·exact absurd h (by unfold headD; rw [if_pos g0, if_neg g1, if_pos g2, if_neg g3]; decide)
   ·by_cases g3 : vN c 1585 = (0)
    ·exact absurd h (by unfold headD; rw [if_pos g0, if_neg g1, if_neg g2, if_pos g3]; decide)
    ·exact absurd h (by unfold headD; rw [if_pos g0, if_neg g1, if_neg g2, if_neg g3]; decide)
 ·by_cases g1 : vA c 1024 = (0)
  ·by_cases g2 : vA c 16 = (0)
   ·by_cases g3 : vN c 1585 = (0)
    ·exact absurd h (by unfold headD; rw [if_neg g0, if_pos g1, if_pos g2, if_pos g3]; decide)
    ·exact absurd h (by unfold headD; rw [if_neg g0, if_pos g1, if_pos g2, if_neg g3]; decide)
   ·by_cases g3 : vN c 1585 = (0)
    ·exact absurd h (by unfold headD; rw [if_neg g0, if_pos g1, if_neg g2, if_pos g3]; decide)
    ·exact absurd h (by unfold headD; rw [if_neg g0, if_pos g1, if_neg g2, if_neg g3]; decide)
  ·by_cases g2 : vA c 16 = (0)
   ·by_cases g3 : vN c 1585 = (0)
    ·exact L_head3_49 b g0 g1 g2 g3
    ·exact absurd h (by unfold headD; rw [if_neg g0, if_neg g1, if_pos g2, if_neg g3]; decide)
   ·by_cases g3 : vN c 1585 = (0)
    ·exact absurd h (by unfold headD; rw [if_neg g0, if_neg g1, if_neg g2, if_pos g3]; decide)
    ·exact absurd h (by unfold headD; rw [if_neg g0, if_neg g1, if_neg g2, if_neg g3]; decide)
theorem head7_1_ok {m c f k : Nat} (b : Bd m c f k) (h : headD m c f k = 1) : @InOk Tryz.prog C_head7_0 (TB m c f k) := by
 by_cases g0 : vA c 512 = (0)
 ·by_cases g1 : vA c 1024 = (0)
  ·by_cases g2 : vA c 16 = (0)
   ·by_cases g3 : vN c 1585 = (0)
    ·exact L_head7_74 b g0 g1 g2 g3
    ·exact absurd h (by unfold headD; rw [if_pos g0, if_pos g1, if_pos g2, if_neg g3]; decide)
   ·by_cases g3 : vN c 1585 = (0)
    ·exact L_head7_67 b g0 g1 g2 g3
    ·exact absurd h (by unfold headD; rw [if_pos g0, if_pos g1, if_neg g2, if_neg g3]; decide)
  ·by_cases g2 : vA c 16 = (0)
   ·by_cases g3 : vN c 1585 = (0)
    ·exact L_head7_60 b g0 g1 g2 g3
    ·exact absurd h (by unfold headD; rw [if_pos g0, if_neg g1, if_pos g2, if_neg g3]; decide)
   ·by_cases g3 : vN c 1585 = (0)
    ·exact absurd h (by unfold headD; rw [if_pos g0, if_neg g1, if_neg g2, if_pos g3]; decide)
    ·exact absurd h (by unfold headD; rw [if_pos g0, if_neg g1, if_neg g2, if_neg g3]; decide)
 ·by_cases g1 : vA c 1024 = (0)
  ·by_cases g2 : vA c 16 = (0)
   ·by_cases g3 : vN c 1585 = (0)
    ·exact absurd h (by unfold headD; rw [if_neg g0, if_pos g1, if_pos g2, if_pos g3]; decide)
    ·exact absurd h (by unfold headD; rw [if_neg g0, if_pos g1, if_pos g2, if_neg g3]; decide)
   ·by_cases g3 : vN c 1585 = (0)
    ·exact absurd h (by unfold headD; rw [if_neg g0, if_pos g1, if_neg g2, if_pos g3]; decide)
    ·exact absurd h (by unfold headD; rw [if_neg g0, if_pos g1, if_neg g2, if_neg g3]; decide)
  ·by_cases g2 : vA c 16 = (0)
   ·by_cases g3 : vN c 1585 = (0)
    ·exact L_head7_53 b g0 g1 g2 g3
    ·exact absurd h (by unfold headD; rw [if_neg g0, if_neg g1, if_pos g2, if_neg g3]; decide)
   ·by_cases g3 : vN c 1585 = (0)
    ·exact absurd h (by unfold headD; rw [if_neg g0, if_neg g1, if_neg g2, if_pos g3]; decide)
    ·exact absurd h (by unfold headD; rw [if_neg g0, if_neg g1, if_neg g2, if_neg g3]; decide)
theorem head8_1_ok {m c f k : Nat} (b : Bd m c f k) (h : headD m c f k = 1) : @InOk Tryz.prog C_head8_0 (TB m c f k) := by
 by_cases g0 : vA c 512 = (0)
 ·by_cases g1 : vA c 1024 = (0)
  ·by_cases g2 : vA c 16 = (0)
   ·by_cases g3 : vN c 1585 = (0)
    ·exact L_head8_75 b g0 g1 g2 g3
    ·exact absurd h (by unfold headD; rw [if_pos g0, if_pos g1, if_pos g2, if_neg g3]; decide)
   ·by_cases g3 : vN c 1585 = (0)
    ·exact L_head8_68 b g0 g1 g2 g3
    ·exact absurd h (by unfold headD; rw [if_pos g0, if_pos g1, if_neg g2, if_neg g3]; decide)
  ·by_cases g2 : vA c 16 = (0)
   ·by_cases g3 : vN c 1585 = (0)
    ·exact L_head8_61 b g0 g1 g2 g3
    ·exact absurd h (by unfold headD; rw [if_pos g0, if_neg g1, if_pos g2, if_neg g3]; decide)
   ·by_cases g3 : vN c 1585 = (0)
    ·exact absurd h (by unfold headD; rw [if_pos g0, if_neg g1, if_neg g2, if_pos g3]; decide)
    ·exact absurd h (by unfold headD; rw [if_pos g0, if_neg g1, if_neg g2, if_neg g3]; decide)
 ·by_cases g1 : vA c 1024 = (0)
  ·by_cases g2 : vA c 16 = (0)
   ·by_cases g3 : vN c 1585 = (0)
    ·exact absurd h (by unfold headD; rw [if_neg g0, if_pos g1, if_pos g2, if_pos g3]; decide)
    ·exact absurd h (by unfold headD; rw [if_neg g0, if_pos g1, if_pos g2, if_neg g3]; decide)
   ·by_cases g3 : vN c 1585 = (0)
    ·exact absurd h (by unfold headD; rw [if_neg g0, if_pos g1, if_neg g2, if_pos g3]; decide)
    ·exact absurd h (by unfold headD; rw [if_neg g0, if_pos g1, if_neg g2, if_neg g3]; decide)
  ·by_cases g2 : vA c 16 = (0)
   ·by_cases g3 : vN c 1585 = (0)
    ·exact L_head8_54 b g0 g1 g2 g3
    ·exact absurd h (by unfold headD; rw [if_neg g0, if_neg g1, if_pos g2, if_neg g3]; decide)
   ·by_cases g3 : vN c 1585 = (0)
    ·exact absurd h (by unfold headD; rw [if_neg g0, if_neg g1, if_neg g2, if_pos g3]; decide)
    ·exact absurd h (by unfold headD; rw [if_neg g0, if_neg g1, if_neg g2, if_neg g3]; decide)
theorem head4_1_ok {m c f k : Nat} (b : Bd m c f k) (h : headD m c f k = 1) : @InOk Tryz.prog C_head4_0 (TB m c f k) := by
 by_cases g0 : vA c 512 = (0)
 ·by_cases g1 : vA c 1024 = (0)
  ·by_cases g2 : vA c 16 = (0)
   ·by_cases g3 : vN c 1585 = (0)
    ·exact L_head4_71 b g0 g1 g2 g3
    ·exact absurd h (by unfold headD; rw [if_pos g0, if_pos g1, if_pos g2, if_neg g3]; decide)
   ·by_cases g3 : vN c 1585 = (0)
    ·exact L_head4_64 b g0 g1 g2 g3
    ·exact absurd h (by unfold headD; rw [if_pos g0, if_pos g1, if_neg g2, if_neg g3]; decide)
  ·by_cases g2 : vA c 16 = (0)
   ·by_cases g3 : vN c 1585 = (0)
    ·exact L_head4_57 b g0 g1 g2 g3
    ·exact absurd h (by unfold headD; rw [if_pos g0, if_neg g1, if_pos g2, if_neg g3]; decide)
   ·by_cases g3 : vN c 1585 = (0)
    ·exact absurd h (by unfold headD; rw [if_pos g0, if_neg g1, if_neg g2, if_pos g3]; decide)
    ·exact absurd h (by unfold headD; rw [if_pos g0, if_neg g1, if_neg g2, if_neg g3]; decide)
 ·by_cases g1 : vA c 1024 = (0)
  ·by_cases g2 : vA c 16 = (0)
   ·by_cases g3 : vN c 1585 = (0)
    ·exact absurd h (by unfold headD; rw [if_neg g0, if_pos g1, if_pos g2, if_pos g3]; decide)
    ·exact absurd h (by unfold headD; rw [if_neg g0, if_pos g1, if_pos g2, if_neg g3]; decide)
   ·by_cases g3 : vN c 1585 = (0)
    ·exact absurd h (by unfold headD; rw [if_neg g0, if_pos g1, if_neg g2, if_pos g3]; decide)
    ·exact absurd h (by unfold headD; rw [if_neg g0, if_pos g1, if_neg g2, if_neg g3]; decide)
  ·by_cases g2 : vA c 16 = (0)
   ·by_cases g3 : vN c 1585 = (0)
    ·exact L_head4_50 b g0 g1 g2 g3
    ·exact absurd h (by unfold headD; rw [if_neg g0, if_neg g1, if_pos g2, if_neg g3]; decide)
   ·by_cases g3 : vN c 1585 = (0)
    ·exact absurd h (by unfold headD; rw [if_neg g0, if_neg g1, if_neg g2, if_pos g3]; decide)
    ·exact absurd h (by unfold headD; rw [if_neg g0, if_neg g1, if_neg g2, if_neg g3]; decide)
theorem head5_1_ok {m c f k : Nat} (b : Bd m c f k) (h : headD m c f k = 1) : @InOk Tryz.prog C_head5_0 (TB m c f k) := by
 by_cases g0 : vA c 512 = (0)
 ·by_cases g1 : vA c 1024 = (0)
  ·by_cases g2 : vA c 16 = (0)
   ·by_cases g3 : vN c 1585 = (0)
    ·exact L_head5_72 b g0 g1 g2 g3
    ·exact absurd h (by unfold headD; rw [if_pos g0, if_pos g1, if_pos g2, if_neg g3]; decide)
   ·by_cases g3 : vN c 1585 = (0)
    ·exact L_head5_65 b g0 g1 g2 g3
    ·exact absurd h (by unfold headD; rw [if_pos g0, if_pos g1, if_neg g2, if_neg g3]; decide)
  ·by_cases g2 : vA c 16 = (0)
   ·by_cases g3 : vN c 1585 = (0)
    ·exact L_head5_58 b g0 g1 g2 g3
    ·exact absurd h (by unfold headD; rw [if_pos g0, if_neg g1, if_pos g2, if_neg g3]; decide)
   ·by_cases g3 : vN c 1585 = (0)
    ·exact absurd h (by unfold headD; rw [if_pos g0, if_neg g1, if_neg g2, if_pos g3]; decide)
    ·exact absurd h (by unfold headD; rw [if_pos g0, if_neg g1, if_neg g2, if_neg g3]; decide)
 ·by_cases g1 : vA c 1024 = (0)
  ·by_cases g2 : vA c 16 = (0)
   ·by_cases g3 : vN c 1585 = (0)
    ·exact absurd h (by unfold headD; rw [if_neg g0, if_pos g1, if_pos g2, if_pos g3]; decide)
    ·exact absurd h (by unfold headD; rw [if_neg g0, if_pos g1, if_pos g2, if_neg g3]; decide)
   ·by_cases g3 : vN c 1585 = (0)
    ·exact absurd h (by unfold headD; rw [if_neg g0, if_pos g1, if_neg g2, if_pos g3]; decide)
    ·exact absurd h (by unfold headD; rw [if_neg g0, if_pos g1, if_neg g2, if_neg g3]; decide)
  ·by_cases g2 : vA c 16 = (0)
   ·by_cases g3 : vN c 1585 = (0)
    ·exact L_head5_51 b g0 g1 g2 g3
    ·exact absurd h (by unfold headD; rw [if_neg g0, if_neg g1, if_pos g2, if_neg g3]; decide)
   ·by_cases g3 : vN c 1585 = (0)
    ·exact absurd h (by unfold headD; rw [if_neg g0, if_neg g1, if_neg g2, if_pos g3]; decide)
    ·exact absurd h (by unfold headD; rw [if_neg g0, if_neg g1, if_neg g2, if_neg g3]; decide)
theorem head6_1_ok {m c f k : Nat} (b : Bd m c f k) (h : headD m c f k = 1) : @InOk Tryz.prog C_head6_0 (TB m c f k) := by
 by_cases g0 : vA c 512 = (0)
 ·by_cases g1 : vA c 1024 = (0)
  ·by_cases g2 : vA c 16 = (0)
   ·by_cases g3 : vN c 1585 = (0)
    ·exact L_head6_73 b g0 g1 g2 g3
    ·exact absurd h (by unfold headD; rw [if_pos g0, if_pos g1, if_pos g2, if_neg g3]; decide)
   ·by_cases g3 : vN c 1585 = (0)
    ·exact L_head6_66 b g0 g1 g2 g3
    ·exact absurd h (by unfold headD; rw [if_pos g0, if_pos g1, if_neg g2, if_neg g3]; decide)
  ·by_cases g2 : vA c 16 = (0)
   ·by_cases g3 : vN c 1585 = (0)
    ·exact L_head6_59 b g0 g1 g2 g3
    ·exact absurd h (by unfold headD; rw [if_pos g0, if_neg g1, if_pos g2, if_neg g3]; decide)
   ·by_cases g3 : vN c 1585 = (0)
    ·exact absurd h (by unfold headD; rw [if_pos g0, if_neg g1, if_neg g2, if_pos g3]; decide)
    ·exact absurd h (by unfold headD; rw [if_pos g0, if_neg g1, if_neg g2, if_neg g3]; decide)
 ·by_cases g1 : vA c 1024 = (0)
  ·by_cases g2 : vA c 16 = (0)
   ·by_cases g3 : vN c 1585 = (0)
    ·exact absurd h (by unfold headD; rw [if_neg g0, if_pos g1, if_pos g2, if_pos g3]; decide)
    ·exact absurd h (by unfold headD; rw [if_neg g0, if_pos g1, if_pos g2, if_neg g3]; decide)
   ·by_cases g3 : vN c 1585 = (0)
    ·exact absurd h (by unfold headD; rw [if_neg g0, if_pos g1, if_neg g2, if_pos g3]; decide)
    ·exact absurd h (by unfold headD; rw [if_neg g0, if_pos g1, if_neg g2, if_neg g3]; decide)
  ·by_cases g2 : vA c 16 = (0)
   ·by_cases g3 : vN c 1585 = (0)
    ·exact L_head6_52 b g0 g1 g2 g3
    ·exact absurd h (by unfold headD; rw [if_neg g0, if_neg g1, if_pos g2, if_neg g3]; decide)
   ·by_cases g3 : vN c 1585 = (0)
    ·exact absurd h (by unfold headD; rw [if_neg g0, if_neg g1, if_neg g2, if_pos g3]; decide)
    ·exact absurd h (by unfold headD; rw [if_neg g0, if_neg g1, if_neg g2, if_neg g3]; decide)
end Go.Proofs.YtlfinnicdpiaaaaGreatDoor.cf
