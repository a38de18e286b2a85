/-
  Runs of Read under the flags by name.
-/
import Derived.Test.YtlfinnicdpiaaaaGreatDoorXN3
import Derived.Test.YtlfinnicdpiaaaaGreatDoorCFB
import Derived.Test.YtlfinnicdpiaaaaGreatDoorCFC
import Derived.KernelRfl
set_option linter.unusedVariables false
set_option linter.unusedSimpArgs false
set_option maxRecDepth 1000000
set_option maxHeartbeats 0
namespace Go.Proofs.YtlfinnicdpiaaaaGreatDoor.cf
open Go.X Go.RowKit
section
variable {m c f k : Nat} (b : Bd m c f k) 
abbrev T_L_Read3_27 : Tab := (RC b ([]) (by letI := Tab.empty; exact ibNil)).tab
theorem L_Read3_27_run : @inRun Tryz.prog (T_L_Read3_27 b) ((inHand C_method2_0).or ((inHand C_field2_0).or ((inHand C_head3_0).or H_CF0a))) 5000 C_Read3_0 = true := (by as_aux_lemma => kernel_rfl)
end
theorem L_Read3_27 {m c f k : Nat} (b : Bd m c f k) (h0 : @InOk Tryz.prog C_head3_0 (TB m c f k)) (h1 : @InOk Tryz.prog C_field2_0 (TB m c f k)) (h2 : @InOk Tryz.prog C_method2_0 (TB m c f k)) : @InOk Tryz.prog C_Read3_0 (TB m c f k) := by
  letI : Tab := (T_L_Read3_27 b)
  exact InOk.tab (VRows.same _ _) (InOk.of_run (K := ((inHand C_method2_0).or ((inHand C_field2_0).or ((inHand C_head3_0).or H_CF0a)))) (n := 5000) mixed (HandOk.or (inHand_ok (InOk.tab (VRows.same _ _) h2) (by kernel_rfl)) (HandOk.or (inHand_ok (InOk.tab (VRows.same _ _) h1) (by kernel_rfl)) (HandOk.or (inHand_ok (InOk.tab (VRows.same _ _) h0) (by kernel_rfl)) H_CF0a_ok))) (by kernel_rfl) (L_Read3_27_run b))
section
variable {m c f k : Nat} (b : Bd m c f k) 
abbrev T_L_Read2_28 : Tab := (RC b ([]) (by letI := Tab.empty; exact ibNil)).tab
theorem L_Read2_28_run : @inRun Tryz.prog (T_L_Read2_28 b) ((inHand C_method0_1).or ((inHand C_field0_0).or ((inHand C_head4_0).or H_CF0a))) 5000 C_Read2_1 = true := (by as_aux_lemma => kernel_rfl)
end
theorem L_Read2_28 {m c f k : Nat} (b : Bd m c f k) (h0 : @InOk Tryz.prog C_head4_0 (TB m c f k)) (h1 : @InOk Tryz.prog C_field0_0 (TB m c f k)) (h2 : @InOk Tryz.prog C_method0_1 (TB m c f k)) : @InOk Tryz.prog C_Read2_1 (TB m c f k) := by
  letI : Tab := (T_L_Read2_28 b)
  exact InOk.tab (VRows.same _ _) (InOk.of_run (K := ((inHand C_method0_1).or ((inHand C_field0_0).or ((inHand C_head4_0).or H_CF0a)))) (n := 5000) mixed (HandOk.or (inHand_ok (InOk.tab (VRows.same _ _) h2) (by kernel_rfl)) (HandOk.or (inHand_ok (InOk.tab (VRows.same _ _) h1) (by kernel_rfl)) (HandOk.or (inHand_ok (InOk.tab (VRows.same _ _) h0) (by kernel_rfl)) H_CF0a_ok))) (by kernel_rfl) (L_Read2_28_run b))
section
variable {m c f k : Nat} (b : Bd m c f k) 
abbrev T_L_Read3_29 : Tab := (RC b ([]) (by letI := Tab.empty; exact ibNil)).tab
theorem L_Read3_29_run : @inRun Tryz.prog (T_L_Read3_29 b) ((inHand C_method2_1).or ((inHand C_field2_0).or ((inHand C_head3_0).or H_CF0a))) 5000 C_Read3_1 = true := (by as_aux_lemma => kernel_rfl)
end
theorem L_Read3_29 {m c f k : Nat} (b : Bd m c f k) (h0 : @InOk Tryz.prog C_head3_0 (TB m c f k)) (h1 : @InOk Tryz.prog C_field2_0 (TB m c f k)) (h2 : @InOk Tryz.prog C_method2_1 (TB m c f k)) : @InOk Tryz.prog C_Read3_1 (TB m c f k) := by
  letI : Tab := (T_L_Read3_29 b)
  exact InOk.tab (VRows.same _ _) (InOk.of_run (K := ((inHand C_method2_1).or ((inHand C_field2_0).or ((inHand C_head3_0).or H_CF0a)))) (n := 5000) mixed (HandOk.or (inHand_ok (InOk.tab (VRows.same _ _) h2) (by kernel_rfl)) (HandOk.or (inHand_ok (InOk.tab (VRows.same _ _) h1) (by kernel_rfl)) (HandOk.or (inHand_ok (InOk.tab (VRows.same _ _) h0) (by kernel_rfl)) H_CF0a_ok))) (by kernel_rfl) (L_Read3_29_run b))
section
variable {m c f k : Nat} (b : Bd m c f k) 
abbrev T_L_Read2_30 : Tab := (RC b ([]) (by letI := Tab.empty; exact ibNil)).tab
theorem L_Read2_30_run : @inRun Tryz.prog (T_L_Read2_30 b) ((inHand C_method0_2).or ((inHand C_field0_0).or ((inHand C_head4_0).or H_CF0a))) 5000 C_Read2_2 = true := (by as_aux_lemma => kernel_rfl)
end
theorem L_Read2_30 {m c f k : Nat} (b : Bd m c f k) (h0 : @InOk Tryz.prog C_head4_0 (TB m c f k)) (h1 : @InOk Tryz.prog C_field0_0 (TB m c f k)) (h2 : @InOk Tryz.prog C_method0_2 (TB m c f k)) : @InOk Tryz.prog C_Read2_2 (TB m c f k) := by
  letI : Tab := (T_L_Read2_30 b)
  exact InOk.tab (VRows.same _ _) (InOk.of_run (K := ((inHand C_method0_2).or ((inHand C_field0_0).or ((inHand C_head4_0).or H_CF0a)))) (n := 5000) mixed (HandOk.or (inHand_ok (InOk.tab (VRows.same _ _) h2) (by kernel_rfl)) (HandOk.or (inHand_ok (InOk.tab (VRows.same _ _) h1) (by kernel_rfl)) (HandOk.or (inHand_ok (InOk.tab (VRows.same _ _) h0) (by kernel_rfl)) H_CF0a_ok))) (by kernel_rfl) (L_Read2_30_run b))
section
variable {m c f k : Nat} (b : Bd m c f k) 
abbrev T_L_Read3_31 : Tab := (RC b ([]) (by letI := Tab.empty; exact ibNil)).tab
theorem L_Read3_31_run : @inRun Tryz.prog (T_L_Read3_31 b) ((inHand C_method2_2).or ((inHand C_field2_0).or ((inHand C_head3_0).or H_CF0a))) 5000 C_Read3_2 = true := (by as_aux_lemma => kernel_rfl)
end
theorem L_Read3_31 {m c f k : Nat} (b : Bd m c f k) (h0 : @InOk Tryz.prog C_head3_0 (TB m c f k)) (h1 : @InOk Tryz.prog C_field2_0 (TB m c f k)) (h2 : @InOk Tryz.prog C_method2_2 (TB m c f k)) : @InOk Tryz.prog C_Read3_2 (TB m c f k) := by
  letI : Tab := (T_L_Read3_31 b)
  exact InOk.tab (VRows.same _ _) (InOk.of_run (K := ((inHand C_method2_2).or ((inHand C_field2_0).or ((inHand C_head3_0).or H_CF0a)))) (n := 5000) mixed (HandOk.or (inHand_ok (InOk.tab (VRows.same _ _) h2) (by kernel_rfl)) (HandOk.or (inHand_ok (InOk.tab (VRows.same _ _) h1) (by kernel_rfl)) (HandOk.or (inHand_ok (InOk.tab (VRows.same _ _) h0) (by kernel_rfl)) H_CF0a_ok))) (by kernel_rfl) (L_Read3_31_run b))
end Go.Proofs.YtlfinnicdpiaaaaGreatDoor.cf
