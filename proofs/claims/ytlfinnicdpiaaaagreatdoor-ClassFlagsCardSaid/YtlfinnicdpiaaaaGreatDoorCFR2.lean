/-
  Runs of Read under the flags by name.
-/
import Derived.Test.YtlfinnicdpiaaaaGreatDoorXN3
import Derived.Test.YtlfinnicdpiaaaaGreatDoorCFB
import Derived.Test.YtlfinnicdpiaaaaGreatDoorCFC
import Derived.KernelRfl
set_option linter.unusedVariables false
set_option linter.unusedSimpArgs false
set_option maxRecDepth 1000000
set_option maxHeartbeats 0
namespace Go.Proofs.YtlfinnicdpiaaaaGreatDoor.cf
open Go.X Go.RowKit
section
variable {m c f k : Nat} (b : Bd m c f k) (h2 : (k : Int) > (0))
abbrev T_L_Read1_18 : Tab := (RC b (e13t 3 (0) ++ ([])) (by letI := Tab.empty; exact (allApp (e13t_ok rfl h2) ibNil))).tab
theorem L_Read1_18_run : @inRun Tryz.prog (T_L_Read1_18 b h2) ((inHand C_field3_1).or ((inHand C_head2_1).or H_CF0a)) 5000 C_Read1_4 = true := (by as_aux_lemma => kernel_rfl)
end
theorem L_Read1_18 {m c f k : Nat} (b : Bd m c f k) (h0 : @InOk Tryz.prog C_head2_1 (TB m c f k)) (h1 : @InOk Tryz.prog C_field3_1 (TB m c f k)) (h2 : (k : Int) > (0)) : @InOk Tryz.prog C_Read1_4 (TB m c f k) := by
  letI : Tab := (T_L_Read1_18 b h2)
  exact InOk.tab (VRows.same _ _) (InOk.of_run (K := ((inHand C_field3_1).or ((inHand C_head2_1).or H_CF0a))) (n := 5000) mixed (HandOk.or (inHand_ok (InOk.tab (VRows.same _ _) h1) (by kernel_rfl)) (HandOk.or (inHand_ok (InOk.tab (VRows.same _ _) h0) (by kernel_rfl)) H_CF0a_ok)) (by kernel_rfl) (L_Read1_18_run b h2))
section
variable {m c f k : Nat} (b : Bd m c f k) (h2 : (k : Int) > (0))
abbrev T_L_Read3_19 : Tab := (RC b (e13t 3 (0) ++ ([])) (by letI := Tab.empty; exact (allApp (e13t_ok rfl h2) ibNil))).tab
theorem L_Read3_19_run : @inRun Tryz.prog (T_L_Read3_19 b h2) ((inHand C_field2_1).or ((inHand C_head3_0).or H_CF0a)) 5000 C_Read3_4 = true := (by as_aux_lemma => kernel_rfl)
end
theorem L_Read3_19 {m c f k : Nat} (b : Bd m c f k) (h0 : @InOk Tryz.prog C_head3_0 (TB m c f k)) (h1 : @InOk Tryz.prog C_field2_1 (TB m c f k)) (h2 : (k : Int) > (0)) : @InOk Tryz.prog C_Read3_4 (TB m c f k) := by
  letI : Tab := (T_L_Read3_19 b h2)
  exact InOk.tab (VRows.same _ _) (InOk.of_run (K := ((inHand C_field2_1).or ((inHand C_head3_0).or H_CF0a))) (n := 5000) mixed (HandOk.or (inHand_ok (InOk.tab (VRows.same _ _) h1) (by kernel_rfl)) (HandOk.or (inHand_ok (InOk.tab (VRows.same _ _) h0) (by kernel_rfl)) H_CF0a_ok)) (by kernel_rfl) (L_Read3_19_run b h2))
section
variable {m c f k : Nat} (b : Bd m c f k) (h2 : (k : Int) > (0))
abbrev T_L_Read6_20 : Tab := (RC b (e13t 3 (0) ++ ([])) (by letI := Tab.empty; exact (allApp (e13t_ok rfl h2) ibNil))).tab
theorem L_Read6_20_run : @inRun Tryz.prog (T_L_Read6_20 b h2) ((inHand C_field5_0).or ((inHand C_head7_0).or H_CF0a)) 5000 C_Read6_0 = true := (by as_aux_lemma => kernel_rfl)
end
theorem L_Read6_20 {m c f k : Nat} (b : Bd m c f k) (h0 : @InOk Tryz.prog C_head7_0 (TB m c f k)) (h1 : @InOk Tryz.prog C_field5_0 (TB m c f k)) (h2 : (k : Int) > (0)) : @InOk Tryz.prog C_Read6_0 (TB m c f k) := by
  letI : Tab := (T_L_Read6_20 b h2)
  exact InOk.tab (VRows.same _ _) (InOk.of_run (K := ((inHand C_field5_0).or ((inHand C_head7_0).or H_CF0a))) (n := 5000) mixed (HandOk.or (inHand_ok (InOk.tab (VRows.same _ _) h1) (by kernel_rfl)) (HandOk.or (inHand_ok (InOk.tab (VRows.same _ _) h0) (by kernel_rfl)) H_CF0a_ok)) (by kernel_rfl) (L_Read6_20_run b h2))
section
variable {m c f k : Nat} (b : Bd m c f k) (h2 : (k : Int) > (0))
abbrev T_L_Read8_21 : Tab := (RC b (e13t 3 (0) ++ ([])) (by letI := Tab.empty; exact (allApp (e13t_ok rfl h2) ibNil))).tab
theorem L_Read8_21_run : @inRun Tryz.prog (T_L_Read8_21 b h2) ((inHand C_field6_0).or ((inHand C_head8_0).or H_CF0a)) 5000 C_Read8_0 = true := (by as_aux_lemma => kernel_rfl)
end
theorem L_Read8_21 {m c f k : Nat} (b : Bd m c f k) (h0 : @InOk Tryz.prog C_head8_0 (TB m c f k)) (h1 : @InOk Tryz.prog C_field6_0 (TB m c f k)) (h2 : (k : Int) > (0)) : @InOk Tryz.prog C_Read8_0 (TB m c f k) := by
  letI : Tab := (T_L_Read8_21 b h2)
  exact InOk.tab (VRows.same _ _) (InOk.of_run (K := ((inHand C_field6_0).or ((inHand C_head8_0).or H_CF0a))) (n := 5000) mixed (HandOk.or (inHand_ok (InOk.tab (VRows.same _ _) h1) (by kernel_rfl)) (HandOk.or (inHand_ok (InOk.tab (VRows.same _ _) h0) (by kernel_rfl)) H_CF0a_ok)) (by kernel_rfl) (L_Read8_21_run b h2))
section
variable {m c f k : Nat} (b : Bd m c f k) 
abbrev T_L_Read1_22 : Tab := (RC b ([]) (by letI := Tab.empty; exact ibNil)).tab
theorem L_Read1_22_run : @inRun Tryz.prog (T_L_Read1_22 b) ((inHand C_method3_3).or ((inHand C_field3_0).or ((inHand C_head2_1).or H_CF0a))) 5000 C_Read1_5 = true := (by as_aux_lemma => kernel_rfl)
end
theorem L_Read1_22 {m c f k : Nat} (b : Bd m c f k) (h0 : @InOk Tryz.prog C_head2_1 (TB m c f k)) (h1 : @InOk Tryz.prog C_field3_0 (TB m c f k)) (h2 : @InOk Tryz.prog C_method3_3 (TB m c f k)) : @InOk Tryz.prog C_Read1_5 (TB m c f k) := by
  letI : Tab := (T_L_Read1_22 b)
  exact InOk.tab (VRows.same _ _) (InOk.of_run (K := ((inHand C_method3_3).or ((inHand C_field3_0).or ((inHand C_head2_1).or H_CF0a)))) (n := 5000) mixed (HandOk.or (inHand_ok (InOk.tab (VRows.same _ _) h2) (by kernel_rfl)) (HandOk.or (inHand_ok (InOk.tab (VRows.same _ _) h1) (by kernel_rfl)) (HandOk.or (inHand_ok (InOk.tab (VRows.same _ _) h0) (by kernel_rfl)) H_CF0a_ok))) (by kernel_rfl) (L_Read1_22_run b))
section
variable {m c f k : Nat} (b : Bd m c f k) 
abbrev T_L_Read5_23 : Tab := (RC b ([]) (by letI := Tab.empty; exact ibNil)).tab
theorem L_Read5_23_run : @inRun Tryz.prog (T_L_Read5_23 b) ((inHand C_method4_1).or ((inHand C_field4_0).or ((inHand C_head6_0).or H_CF0a))) 5000 C_Read5_1 = true := (by as_aux_lemma => kernel_rfl)
end
theorem L_Read5_23 {m c f k : Nat} (b : Bd m c f k) (h0 : @InOk Tryz.prog C_head6_0 (TB m c f k)) (h1 : @InOk Tryz.prog C_field4_0 (TB m c f k)) (h2 : @InOk Tryz.prog C_method4_1 (TB m c f k)) : @InOk Tryz.prog C_Read5_1 (TB m c f k) := by
  letI : Tab := (T_L_Read5_23 b)
  exact InOk.tab (VRows.same _ _) (InOk.of_run (K := ((inHand C_method4_1).or ((inHand C_field4_0).or ((inHand C_head6_0).or H_CF0a)))) (n := 5000) mixed (HandOk.or (inHand_ok (InOk.tab (VRows.same _ _) h2) (by kernel_rfl)) (HandOk.or (inHand_ok (InOk.tab (VRows.same _ _) h1) (by kernel_rfl)) (HandOk.or (inHand_ok (InOk.tab (VRows.same _ _) h0) (by kernel_rfl)) H_CF0a_ok))) (by kernel_rfl) (L_Read5_23_run b))
section
variable {m c f k : Nat} (b : Bd m c f k) (h2 : ¬ (k : Int) > (0))
abbrev T_L_Read1_24 : Tab := (RC b (e13f 3 (0) ++ ([])) (by letI := Tab.empty; exact (allApp (e13f_ok rfl h2) ibNil))).tab
theorem L_Read1_24_run : @inRun Tryz.prog (T_L_Read1_24 b h2) ((inHand C_field3_1).or ((inHand C_head2_1).or H_CF0a)) 5000 C_Read1_4 = true := (by as_aux_lemma => kernel_rfl)
end
theorem L_Read1_24 {m c f k : Nat} (b : Bd m c f k) (h0 : @InOk Tryz.prog C_head2_1 (TB m c f k)) (h1 : @InOk Tryz.prog C_field3_1 (TB m c f k)) (h2 : ¬ (k : Int) > (0)) : @InOk Tryz.prog C_Read1_4 (TB m c f k) := by
  letI : Tab := (T_L_Read1_24 b h2)
  exact InOk.tab (VRows.same _ _) (InOk.of_run (K := ((inHand C_field3_1).or ((inHand C_head2_1).or H_CF0a))) (n := 5000) mixed (HandOk.or (inHand_ok (InOk.tab (VRows.same _ _) h1) (by kernel_rfl)) (HandOk.or (inHand_ok (InOk.tab (VRows.same _ _) h0) (by kernel_rfl)) H_CF0a_ok)) (by kernel_rfl) (L_Read1_24_run b h2))
section
variable {m c f k : Nat} (b : Bd m c f k) (h2 : ¬ (k : Int) > (0))
abbrev T_L_Read6_25 : Tab := (RC b (e13f 3 (0) ++ ([])) (by letI := Tab.empty; exact (allApp (e13f_ok rfl h2) ibNil))).tab
theorem L_Read6_25_run : @inRun Tryz.prog (T_L_Read6_25 b h2) ((inHand C_field5_0).or ((inHand C_head7_0).or H_CF0a)) 5000 C_Read6_0 = true := (by as_aux_lemma => kernel_rfl)
end
theorem L_Read6_25 {m c f k : Nat} (b : Bd m c f k) (h0 : @InOk Tryz.prog C_head7_0 (TB m c f k)) (h1 : @InOk Tryz.prog C_field5_0 (TB m c f k)) (h2 : ¬ (k : Int) > (0)) : @InOk Tryz.prog C_Read6_0 (TB m c f k) := by
  letI : Tab := (T_L_Read6_25 b h2)
  exact InOk.tab (VRows.same _ _) (InOk.of_run (K := ((inHand C_field5_0).or ((inHand C_head7_0).or H_CF0a))) (n := 5000) mixed (HandOk.or (inHand_ok (InOk.tab (VRows.same _ _) h1) (by kernel_rfl)) (HandOk.or (inHand_ok (InOk.tab (VRows.same _ _) h0) (by kernel_rfl)) H_CF0a_ok)) (by kernel_rfl) (L_Read6_25_run b h2))
section
variable {m c f k : Nat} (b : Bd m c f k) 
abbrev T_L_Read2_26 : Tab := (RC b ([]) (by letI := Tab.empty; exact ibNil)).tab
theorem L_Read2_26_run : @inRun Tryz.prog (T_L_Read2_26 b) ((inHand C_method0_0).or ((inHand C_field0_0).or ((inHand C_head4_0).or H_CF0a))) 5000 C_Read2_0 = true := (by as_aux_lemma => kernel_rfl)
end
theorem L_Read2_26 {m c f k : Nat} (b : Bd m c f k) (h0 : @InOk Tryz.prog C_head4_0 (TB m c f k)) (h1 : @InOk Tryz.prog C_field0_0 (TB m c f k)) (h2 : @InOk Tryz.prog C_method0_0 (TB m c f k)) : @InOk Tryz.prog C_Read2_0 (TB m c f k) := by
  letI : Tab := (T_L_Read2_26 b)
  exact InOk.tab (VRows.same _ _) (InOk.of_run (K := ((inHand C_method0_0).or ((inHand C_field0_0).or ((inHand C_head4_0).or H_CF0a)))) (n := 5000) mixed (HandOk.or (inHand_ok (InOk.tab (VRows.same _ _) h2) (by kernel_rfl)) (HandOk.or (inHand_ok (InOk.tab (VRows.same _ _) h1) (by kernel_rfl)) (HandOk.or (inHand_ok (InOk.tab (VRows.same _ _) h0) (by kernel_rfl)) H_CF0a_ok))) (by kernel_rfl) (L_Read2_26_run b))
end Go.Proofs.YtlfinnicdpiaaaaGreatDoor.cf
