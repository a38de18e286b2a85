/-
  Runs of Read under the flags by name.
-/
import Derived.Test.YtlfinnicdpiaaaaGreatDoorXN3
import Derived.Test.YtlfinnicdpiaaaaGreatDoorCFB
import Derived.Test.YtlfinnicdpiaaaaGreatDoorCFC
import Derived.KernelRfl
set_option linter.unusedVariables false
set_option linter.unusedSimpArgs false
set_option maxRecDepth 1000000
set_option maxHeartbeats 0
namespace Go.Proofs.YtlfinnicdpiaaaaGreatDoor.cf
open Go.X Go.RowKit
section
variable {m c f k : Nat} (b : Bd m c f k) (h1 : ¬ (f : Int) ≤ (100)) (h2 : (f : Int) > (0))
abbrev T_L_Read1_9 : Tab := (RC b (e12f 2 (100) ++ (e13t 2 (0) ++ ([]))) (by letI := Tab.empty; exact (allApp (e12f_ok rfl h1) (allApp (e13t_ok rfl h2) ibNil)))).tab
theorem L_Read1_9_run : @inRun Tryz.prog (T_L_Read1_9 b h1 h2) ((inHand C_head2_0).or H_CF0a) 5000 C_Read1_0 = true := (by as_aux_lemma => kernel_rfl)
end
theorem L_Read1_9 {m c f k : Nat} (b : Bd m c f k) (h0 : @InOk Tryz.prog C_head2_0 (TB m c f k)) (h1 : ¬ (f : Int) ≤ (100)) (h2 : (f : Int) > (0)) : @InOk Tryz.prog C_Read1_0 (TB m c f k) := by
  letI : Tab := (T_L_Read1_9 b h1 h2)
  exact InOk.tab (VRows.same _ _) (InOk.of_run (K := ((inHand C_head2_0).or H_CF0a)) (n := 5000) mixed (HandOk.or (inHand_ok (InOk.tab (VRows.same _ _) h0) (by kernel_rfl)) H_CF0a_ok) (by kernel_rfl) (L_Read1_9_run b h1 h2))
section
variable {m c f k : Nat} (b : Bd m c f k) (h1 : ¬ (f : Int) ≤ (100)) (h2 : (f : Int) > (0))
abbrev T_L_Read3_10 : Tab := (RC b (e12f 2 (100) ++ (e13t 2 (0) ++ ([]))) (by letI := Tab.empty; exact (allApp (e12f_ok rfl h1) (allApp (e13t_ok rfl h2) ibNil)))).tab
theorem L_Read3_10_run : @inRun Tryz.prog (T_L_Read3_10 b h1 h2) ((inHand C_head3_1).or H_CF0a) 5000 C_Read3_3 = true := (by as_aux_lemma => kernel_rfl)
end
theorem L_Read3_10 {m c f k : Nat} (b : Bd m c f k) (h0 : @InOk Tryz.prog C_head3_1 (TB m c f k)) (h1 : ¬ (f : Int) ≤ (100)) (h2 : (f : Int) > (0)) : @InOk Tryz.prog C_Read3_3 (TB m c f k) := by
  letI : Tab := (T_L_Read3_10 b h1 h2)
  exact InOk.tab (VRows.same _ _) (InOk.of_run (K := ((inHand C_head3_1).or H_CF0a)) (n := 5000) mixed (HandOk.or (inHand_ok (InOk.tab (VRows.same _ _) h0) (by kernel_rfl)) H_CF0a_ok) (by kernel_rfl) (L_Read3_10_run b h1 h2))
section
variable {m c f k : Nat} (b : Bd m c f k) (h1 : ¬ (f : Int) ≤ (100)) (h2 : (f : Int) > (0))
abbrev T_L_Read7_11 : Tab := (RC b (e12f 2 (100) ++ (e13t 2 (0) ++ ([]))) (by letI := Tab.empty; exact (allApp (e12f_ok rfl h1) (allApp (e13t_ok rfl h2) ibNil)))).tab
theorem L_Read7_11_run : @inRun Tryz.prog (T_L_Read7_11 b h1 h2) ((inHand C_head1_0).or H_CF0a) 5000 C_Read7_0 = true := (by as_aux_lemma => kernel_rfl)
end
theorem L_Read7_11 {m c f k : Nat} (b : Bd m c f k) (h0 : @InOk Tryz.prog C_head1_0 (TB m c f k)) (h1 : ¬ (f : Int) ≤ (100)) (h2 : (f : Int) > (0)) : @InOk Tryz.prog C_Read7_0 (TB m c f k) := by
  letI : Tab := (T_L_Read7_11 b h1 h2)
  exact InOk.tab (VRows.same _ _) (InOk.of_run (K := ((inHand C_head1_0).or H_CF0a)) (n := 5000) mixed (HandOk.or (inHand_ok (InOk.tab (VRows.same _ _) h0) (by kernel_rfl)) H_CF0a_ok) (by kernel_rfl) (L_Read7_11_run b h1 h2))
section
variable {m c f k : Nat} (b : Bd m c f k) 
abbrev T_L_Read1_12 : Tab := (RC b ([]) (by letI := Tab.empty; exact ibNil)).tab
theorem L_Read1_12_run : @inRun Tryz.prog (T_L_Read1_12 b) ((inHand C_method3_0).or ((inHand C_field3_0).or ((inHand C_head2_1).or H_CF0a))) 5000 C_Read1_1 = true := (by as_aux_lemma => kernel_rfl)
end
theorem L_Read1_12 {m c f k : Nat} (b : Bd m c f k) (h0 : @InOk Tryz.prog C_head2_1 (TB m c f k)) (h1 : @InOk Tryz.prog C_field3_0 (TB m c f k)) (h2 : @InOk Tryz.prog C_method3_0 (TB m c f k)) : @InOk Tryz.prog C_Read1_1 (TB m c f k) := by
  letI : Tab := (T_L_Read1_12 b)
  exact InOk.tab (VRows.same _ _) (InOk.of_run (K := ((inHand C_method3_0).or ((inHand C_field3_0).or ((inHand C_head2_1).or H_CF0a)))) (n := 5000) mixed (HandOk.or (inHand_ok (InOk.tab (VRows.same _ _) h2) (by kernel_rfl)) (HandOk.or (inHand_ok (InOk.tab (VRows.same _ _) h1) (by kernel_rfl)) (HandOk.or (inHand_ok (InOk.tab (VRows.same _ _) h0) (by kernel_rfl)) H_CF0a_ok))) (by kernel_rfl) (L_Read1_12_run b))
section
variable {m c f k : Nat} (b : Bd m c f k) 
abbrev T_L_Read4_13 : Tab := (RC b ([]) (by letI := Tab.empty; exact ibNil)).tab
theorem L_Read4_13_run : @inRun Tryz.prog (T_L_Read4_13 b) ((inHand C_method1_0).or ((inHand C_field1_0).or ((inHand C_head5_0).or H_CF0a))) 5000 C_Read4_0 = true := (by as_aux_lemma => kernel_rfl)
end
theorem L_Read4_13 {m c f k : Nat} (b : Bd m c f k) (h0 : @InOk Tryz.prog C_head5_0 (TB m c f k)) (h1 : @InOk Tryz.prog C_field1_0 (TB m c f k)) (h2 : @InOk Tryz.prog C_method1_0 (TB m c f k)) : @InOk Tryz.prog C_Read4_0 (TB m c f k) := by
  letI : Tab := (T_L_Read4_13 b)
  exact InOk.tab (VRows.same _ _) (InOk.of_run (K := ((inHand C_method1_0).or ((inHand C_field1_0).or ((inHand C_head5_0).or H_CF0a)))) (n := 5000) mixed (HandOk.or (inHand_ok (InOk.tab (VRows.same _ _) h2) (by kernel_rfl)) (HandOk.or (inHand_ok (InOk.tab (VRows.same _ _) h1) (by kernel_rfl)) (HandOk.or (inHand_ok (InOk.tab (VRows.same _ _) h0) (by kernel_rfl)) H_CF0a_ok))) (by kernel_rfl) (L_Read4_13_run b))
section
variable {m c f k : Nat} (b : Bd m c f k) 
abbrev T_L_Read1_14 : Tab := (RC b ([]) (by letI := Tab.empty; exact ibNil)).tab
theorem L_Read1_14_run : @inRun Tryz.prog (T_L_Read1_14 b) ((inHand C_method3_1).or ((inHand C_field3_0).or ((inHand C_head2_1).or H_CF0a))) 5000 C_Read1_2 = true := (by as_aux_lemma => kernel_rfl)
end
theorem L_Read1_14 {m c f k : Nat} (b : Bd m c f k) (h0 : @InOk Tryz.prog C_head2_1 (TB m c f k)) (h1 : @InOk Tryz.prog C_field3_0 (TB m c f k)) (h2 : @InOk Tryz.prog C_method3_1 (TB m c f k)) : @InOk Tryz.prog C_Read1_2 (TB m c f k) := by
  letI : Tab := (T_L_Read1_14 b)
  exact InOk.tab (VRows.same _ _) (InOk.of_run (K := ((inHand C_method3_1).or ((inHand C_field3_0).or ((inHand C_head2_1).or H_CF0a)))) (n := 5000) mixed (HandOk.or (inHand_ok (InOk.tab (VRows.same _ _) h2) (by kernel_rfl)) (HandOk.or (inHand_ok (InOk.tab (VRows.same _ _) h1) (by kernel_rfl)) (HandOk.or (inHand_ok (InOk.tab (VRows.same _ _) h0) (by kernel_rfl)) H_CF0a_ok))) (by kernel_rfl) (L_Read1_14_run b))
section
variable {m c f k : Nat} (b : Bd m c f k) 
abbrev T_L_Read4_15 : Tab := (RC b ([]) (by letI := Tab.empty; exact ibNil)).tab
theorem L_Read4_15_run : @inRun Tryz.prog (T_L_Read4_15 b) ((inHand C_method1_1).or ((inHand C_field1_0).or ((inHand C_head5_0).or H_CF0a))) 5000 C_Read4_1 = true := (by as_aux_lemma => kernel_rfl)
end
theorem L_Read4_15 {m c f k : Nat} (b : Bd m c f k) (h0 : @InOk Tryz.prog C_head5_0 (TB m c f k)) (h1 : @InOk Tryz.prog C_field1_0 (TB m c f k)) (h2 : @InOk Tryz.prog C_method1_1 (TB m c f k)) : @InOk Tryz.prog C_Read4_1 (TB m c f k) := by
  letI : Tab := (T_L_Read4_15 b)
  exact InOk.tab (VRows.same _ _) (InOk.of_run (K := ((inHand C_method1_1).or ((inHand C_field1_0).or ((inHand C_head5_0).or H_CF0a)))) (n := 5000) mixed (HandOk.or (inHand_ok (InOk.tab (VRows.same _ _) h2) (by kernel_rfl)) (HandOk.or (inHand_ok (InOk.tab (VRows.same _ _) h1) (by kernel_rfl)) (HandOk.or (inHand_ok (InOk.tab (VRows.same _ _) h0) (by kernel_rfl)) H_CF0a_ok))) (by kernel_rfl) (L_Read4_15_run b))
section
variable {m c f k : Nat} (b : Bd m c f k) 
abbrev T_L_Read1_16 : Tab := (RC b ([]) (by letI := Tab.empty; exact ibNil)).tab
theorem L_Read1_16_run : @inRun Tryz.prog (T_L_Read1_16 b) ((inHand C_method3_2).or ((inHand C_field3_0).or ((inHand C_head2_1).or H_CF0a))) 5000 C_Read1_3 = true := (by as_aux_lemma => kernel_rfl)
end
theorem L_Read1_16 {m c f k : Nat} (b : Bd m c f k) (h0 : @InOk Tryz.prog C_head2_1 (TB m c f k)) (h1 : @InOk Tryz.prog C_field3_0 (TB m c f k)) (h2 : @InOk Tryz.prog C_method3_2 (TB m c f k)) : @InOk Tryz.prog C_Read1_3 (TB m c f k) := by
  letI : Tab := (T_L_Read1_16 b)
  exact InOk.tab (VRows.same _ _) (InOk.of_run (K := ((inHand C_method3_2).or ((inHand C_field3_0).or ((inHand C_head2_1).or H_CF0a)))) (n := 5000) mixed (HandOk.or (inHand_ok (InOk.tab (VRows.same _ _) h2) (by kernel_rfl)) (HandOk.or (inHand_ok (InOk.tab (VRows.same _ _) h1) (by kernel_rfl)) (HandOk.or (inHand_ok (InOk.tab (VRows.same _ _) h0) (by kernel_rfl)) H_CF0a_ok))) (by kernel_rfl) (L_Read1_16_run b))
section
variable {m c f k : Nat} (b : Bd m c f k) 
abbrev T_L_Read5_17 : Tab := (RC b ([]) (by letI := Tab.empty; exact ibNil)).tab
theorem L_Read5_17_run : @inRun Tryz.prog (T_L_Read5_17 b) ((inHand C_method4_0).or ((inHand C_field4_0).or ((inHand C_head6_0).or H_CF0a))) 5000 C_Read5_0 = true := (by as_aux_lemma => kernel_rfl)
end
theorem L_Read5_17 {m c f k : Nat} (b : Bd m c f k) (h0 : @InOk Tryz.prog C_head6_0 (TB m c f k)) (h1 : @InOk Tryz.prog C_field4_0 (TB m c f k)) (h2 : @InOk Tryz.prog C_method4_0 (TB m c f k)) : @InOk Tryz.prog C_Read5_0 (TB m c f k) := by
  letI : Tab := (T_L_Read5_17 b)
  exact InOk.tab (VRows.same _ _) (InOk.of_run (K := ((inHand C_method4_0).or ((inHand C_field4_0).or ((inHand C_head6_0).or H_CF0a)))) (n := 5000) mixed (HandOk.or (inHand_ok (InOk.tab (VRows.same _ _) h2) (by kernel_rfl)) (HandOk.or (inHand_ok (InOk.tab (VRows.same _ _) h1) (by kernel_rfl)) (HandOk.or (inHand_ok (InOk.tab (VRows.same _ _) h0) (by kernel_rfl)) H_CF0a_ok))) (by kernel_rfl) (L_Read5_17_run b))
end Go.Proofs.YtlfinnicdpiaaaaGreatDoor.cf
