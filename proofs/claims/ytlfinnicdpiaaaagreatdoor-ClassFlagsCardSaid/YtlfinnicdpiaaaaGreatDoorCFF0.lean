/-
  Runs of field under the flags by name.
-/
import Derived.Test.YtlfinnicdpiaaaaGreatDoorXN3
import Derived.Test.YtlfinnicdpiaaaaGreatDoorCFB
import Derived.Test.YtlfinnicdpiaaaaGreatDoorCFC
import Derived.KernelRfl
set_option linter.unusedVariables false
set_option linter.unusedSimpArgs false
set_option maxRecDepth 1000000
set_option maxHeartbeats 0
namespace Go.Proofs.YtlfinnicdpiaaaaGreatDoor.cf
open Go.X Go.RowKit
section
variable {m c f k : Nat} (b : Bd m c f k) (h0 : vN f 31 = (0)) (h2 : ¬ vA c 512 = (0)) (h3 : (f : Int) = (25))
abbrev T_L_field0_0 : Tab := (RC b (e9t 8 (0) ++ (e9f 4 (0) ++ (e9t 2 (25) ++ ([])))) (by letI := Tab.empty; exact (allApp (e9t_ok rfl h0) (allApp (e9f_ok rfl h2) (allApp (e9t_ok rfl h3) ibNil))))).tab
theorem L_field0_0_run : @inRun Tryz.prog (T_L_field0_0 b h0 h2 h3) ((H_single_f_true).or H_CF0a) 5000 C_field0_0 = true := (by as_aux_lemma => kernel_rfl)
end
theorem L_field0_0 {m c f k : Nat} (b : Bd m c f k) (h0 : vN f 31 = (0)) (h1 : acc f = true) (h2 : ¬ vA c 512 = (0)) (h3 : (f : Int) = (25)) : @InOk Tryz.prog C_field0_0 (TB m c f k) := by
  letI : Tab := (T_L_field0_0 b h0 h2 h3)
  exact InOk.tab (VRows.same _ _) (InOk.of_run (K := ((H_single_f_true).or H_CF0a)) (n := 5000) mixed (HandOk.or (H_single_f_true_ok b h1 (VRows.same _ _)) H_CF0a_ok) (by kernel_rfl) (L_field0_0_run b h0 h2 h3))
section
variable {m c f k : Nat} (b : Bd m c f k) (h0 : vN f 31 = (0)) (h2 : ¬ vA c 512 = (0)) (h3 : (f : Int) = (25))
abbrev T_L_field1_1 : Tab := (RC b (e9t 8 (0) ++ (e9f 4 (0) ++ (e9t 2 (25) ++ ([])))) (by letI := Tab.empty; exact (allApp (e9t_ok rfl h0) (allApp (e9f_ok rfl h2) (allApp (e9t_ok rfl h3) ibNil))))).tab
theorem L_field1_1_run : @inRun Tryz.prog (T_L_field1_1 b h0 h2 h3) ((H_single_f_true).or H_CF0a) 5000 C_field1_0 = true := (by as_aux_lemma => kernel_rfl)
end
theorem L_field1_1 {m c f k : Nat} (b : Bd m c f k) (h0 : vN f 31 = (0)) (h1 : acc f = true) (h2 : ¬ vA c 512 = (0)) (h3 : (f : Int) = (25)) : @InOk Tryz.prog C_field1_0 (TB m c f k) := by
  letI : Tab := (T_L_field1_1 b h0 h2 h3)
  exact InOk.tab (VRows.same _ _) (InOk.of_run (K := ((H_single_f_true).or H_CF0a)) (n := 5000) mixed (HandOk.or (H_single_f_true_ok b h1 (VRows.same _ _)) H_CF0a_ok) (by kernel_rfl) (L_field1_1_run b h0 h2 h3))
section
variable {m c f k : Nat} (b : Bd m c f k) (h0 : vN f 31 = (0)) (h2 : ¬ vA c 512 = (0)) (h3 : (f : Int) = (25))
abbrev T_L_field2_2 : Tab := (RC b (e9t 8 (0) ++ (e9f 4 (0) ++ (e9t 2 (25) ++ ([])))) (by letI := Tab.empty; exact (allApp (e9t_ok rfl h0) (allApp (e9f_ok rfl h2) (allApp (e9t_ok rfl h3) ibNil))))).tab
theorem L_field2_2_run : @inRun Tryz.prog (T_L_field2_2 b h0 h2 h3) ((H_single_f_true).or H_CF0a) 5000 C_field2_0 = true := (by as_aux_lemma => kernel_rfl)
end
theorem L_field2_2 {m c f k : Nat} (b : Bd m c f k) (h0 : vN f 31 = (0)) (h1 : acc f = true) (h2 : ¬ vA c 512 = (0)) (h3 : (f : Int) = (25)) : @InOk Tryz.prog C_field2_0 (TB m c f k) := by
  letI : Tab := (T_L_field2_2 b h0 h2 h3)
  exact InOk.tab (VRows.same _ _) (InOk.of_run (K := ((H_single_f_true).or H_CF0a)) (n := 5000) mixed (HandOk.or (H_single_f_true_ok b h1 (VRows.same _ _)) H_CF0a_ok) (by kernel_rfl) (L_field2_2_run b h0 h2 h3))
section
variable {m c f k : Nat} (b : Bd m c f k) (h0 : vN f 31 = (0)) (h2 : ¬ vA c 512 = (0)) (h3 : (f : Int) = (25))
abbrev T_L_field3_3 : Tab := (RC b (e9t 8 (0) ++ (e9f 4 (0) ++ (e9t 2 (25) ++ ([])))) (by letI := Tab.empty; exact (allApp (e9t_ok rfl h0) (allApp (e9f_ok rfl h2) (allApp (e9t_ok rfl h3) ibNil))))).tab
theorem L_field3_3_run : @inRun Tryz.prog (T_L_field3_3 b h0 h2 h3) ((H_single_f_true).or H_CF0a) 5000 C_field3_0 = true := (by as_aux_lemma => kernel_rfl)
end
theorem L_field3_3 {m c f k : Nat} (b : Bd m c f k) (h0 : vN f 31 = (0)) (h1 : acc f = true) (h2 : ¬ vA c 512 = (0)) (h3 : (f : Int) = (25)) : @InOk Tryz.prog C_field3_0 (TB m c f k) := by
  letI : Tab := (T_L_field3_3 b h0 h2 h3)
  exact InOk.tab (VRows.same _ _) (InOk.of_run (K := ((H_single_f_true).or H_CF0a)) (n := 5000) mixed (HandOk.or (H_single_f_true_ok b h1 (VRows.same _ _)) H_CF0a_ok) (by kernel_rfl) (L_field3_3_run b h0 h2 h3))
section
variable {m c f k : Nat} (b : Bd m c f k) (h0 : vN f 31 = (0)) (h2 : ¬ vA c 512 = (0)) (h3 : (f : Int) = (25))
abbrev T_L_field4_4 : Tab := (RC b (e9t 8 (0) ++ (e9f 4 (0) ++ (e9t 2 (25) ++ ([])))) (by letI := Tab.empty; exact (allApp (e9t_ok rfl h0) (allApp (e9f_ok rfl h2) (allApp (e9t_ok rfl h3) ibNil))))).tab
theorem L_field4_4_run : @inRun Tryz.prog (T_L_field4_4 b h0 h2 h3) ((H_single_f_true).or H_CF0a) 5000 C_field4_0 = true := (by as_aux_lemma => kernel_rfl)
end
theorem L_field4_4 {m c f k : Nat} (b : Bd m c f k) (h0 : vN f 31 = (0)) (h1 : acc f = true) (h2 : ¬ vA c 512 = (0)) (h3 : (f : Int) = (25)) : @InOk Tryz.prog C_field4_0 (TB m c f k) := by
  letI : Tab := (T_L_field4_4 b h0 h2 h3)
  exact InOk.tab (VRows.same _ _) (InOk.of_run (K := ((H_single_f_true).or H_CF0a)) (n := 5000) mixed (HandOk.or (H_single_f_true_ok b h1 (VRows.same _ _)) H_CF0a_ok) (by kernel_rfl) (L_field4_4_run b h0 h2 h3))
section
variable {m c f k : Nat} (b : Bd m c f k) (h0 : vN f 31 = (0)) (h2 : vA c 512 = (0))
abbrev T_L_field0_5 : Tab := (RC b (e9t 8 (0) ++ (e9t 4 (0) ++ ([]))) (by letI := Tab.empty; exact (allApp (e9t_ok rfl h0) (allApp (e9t_ok rfl h2) ibNil)))).tab
theorem L_field0_5_run : @inRun Tryz.prog (T_L_field0_5 b h0 h2) ((H_single_f_true).or H_CF0a) 5000 C_field0_0 = true := (by as_aux_lemma => kernel_rfl)
end
theorem L_field0_5 {m c f k : Nat} (b : Bd m c f k) (h0 : vN f 31 = (0)) (h1 : acc f = true) (h2 : vA c 512 = (0)) : @InOk Tryz.prog C_field0_0 (TB m c f k) := by
  letI : Tab := (T_L_field0_5 b h0 h2)
  exact InOk.tab (VRows.same _ _) (InOk.of_run (K := ((H_single_f_true).or H_CF0a)) (n := 5000) mixed (HandOk.or (H_single_f_true_ok b h1 (VRows.same _ _)) H_CF0a_ok) (by kernel_rfl) (L_field0_5_run b h0 h2))
section
variable {m c f k : Nat} (b : Bd m c f k) (h0 : vN f 31 = (0)) (h2 : vA c 512 = (0))
abbrev T_L_field1_6 : Tab := (RC b (e9t 8 (0) ++ (e9t 4 (0) ++ ([]))) (by letI := Tab.empty; exact (allApp (e9t_ok rfl h0) (allApp (e9t_ok rfl h2) ibNil)))).tab
theorem L_field1_6_run : @inRun Tryz.prog (T_L_field1_6 b h0 h2) ((H_single_f_true).or H_CF0a) 5000 C_field1_0 = true := (by as_aux_lemma => kernel_rfl)
end
theorem L_field1_6 {m c f k : Nat} (b : Bd m c f k) (h0 : vN f 31 = (0)) (h1 : acc f = true) (h2 : vA c 512 = (0)) : @InOk Tryz.prog C_field1_0 (TB m c f k) := by
  letI : Tab := (T_L_field1_6 b h0 h2)
  exact InOk.tab (VRows.same _ _) (InOk.of_run (K := ((H_single_f_true).or H_CF0a)) (n := 5000) mixed (HandOk.or (H_single_f_true_ok b h1 (VRows.same _ _)) H_CF0a_ok) (by kernel_rfl) (L_field1_6_run b h0 h2))
section
variable {m c f k : Nat} (b : Bd m c f k) (h0 : vN f 31 = (0)) (h2 : vA c 512 = (0))
abbrev T_L_field2_7 : Tab := (RC b (e9t 8 (0) ++ (e9t 4 (0) ++ ([]))) (by letI := Tab.empty; exact (allApp (e9t_ok rfl h0) (allApp (e9t_ok rfl h2) ibNil)))).tab
theorem L_field2_7_run : @inRun Tryz.prog (T_L_field2_7 b h0 h2) ((H_single_f_true).or H_CF0a) 5000 C_field2_0 = true := (by as_aux_lemma => kernel_rfl)
end
theorem L_field2_7 {m c f k : Nat} (b : Bd m c f k) (h0 : vN f 31 = (0)) (h1 : acc f = true) (h2 : vA c 512 = (0)) : @InOk Tryz.prog C_field2_0 (TB m c f k) := by
  letI : Tab := (T_L_field2_7 b h0 h2)
  exact InOk.tab (VRows.same _ _) (InOk.of_run (K := ((H_single_f_true).or H_CF0a)) (n := 5000) mixed (HandOk.or (H_single_f_true_ok b h1 (VRows.same _ _)) H_CF0a_ok) (by kernel_rfl) (L_field2_7_run b h0 h2))
section
variable {m c f k : Nat} (b : Bd m c f k) (h0 : vN f 31 = (0)) (h2 : vA c 512 = (0))
abbrev T_L_field3_8 : Tab := (RC b (e9t 8 (0) ++ (e9t 4 (0) ++ ([]))) (by letI := Tab.empty; exact (allApp (e9t_ok rfl h0) (allApp (e9t_ok rfl h2) ibNil)))).tab
theorem L_field3_8_run : @inRun Tryz.prog (T_L_field3_8 b h0 h2) ((H_single_f_true).or H_CF0a) 5000 C_field3_0 = true := (by as_aux_lemma => kernel_rfl)
end
theorem L_field3_8 {m c f k : Nat} (b : Bd m c f k) (h0 : vN f 31 = (0)) (h1 : acc f = true) (h2 : vA c 512 = (0)) : @InOk Tryz.prog C_field3_0 (TB m c f k) := by
  letI : Tab := (T_L_field3_8 b h0 h2)
  exact InOk.tab (VRows.same _ _) (InOk.of_run (K := ((H_single_f_true).or H_CF0a)) (n := 5000) mixed (HandOk.or (H_single_f_true_ok b h1 (VRows.same _ _)) H_CF0a_ok) (by kernel_rfl) (L_field3_8_run b h0 h2))
section
variable {m c f k : Nat} (b : Bd m c f k) (h0 : vN f 31 = (0)) (h2 : vA c 512 = (0))
abbrev T_L_field4_9 : Tab := (RC b (e9t 8 (0) ++ (e9t 4 (0) ++ ([]))) (by letI := Tab.empty; exact (allApp (e9t_ok rfl h0) (allApp (e9t_ok rfl h2) ibNil)))).tab
theorem L_field4_9_run : @inRun Tryz.prog (T_L_field4_9 b h0 h2) ((H_single_f_true).or H_CF0a) 5000 C_field4_0 = true := (by as_aux_lemma => kernel_rfl)
end
theorem L_field4_9 {m c f k : Nat} (b : Bd m c f k) (h0 : vN f 31 = (0)) (h1 : acc f = true) (h2 : vA c 512 = (0)) : @InOk Tryz.prog C_field4_0 (TB m c f k) := by
  letI : Tab := (T_L_field4_9 b h0 h2)
  exact InOk.tab (VRows.same _ _) (InOk.of_run (K := ((H_single_f_true).or H_CF0a)) (n := 5000) mixed (HandOk.or (H_single_f_true_ok b h1 (VRows.same _ _)) H_CF0a_ok) (by kernel_rfl) (L_field4_9_run b h0 h2))
section
variable {m c f k : Nat} (b : Bd m c f k) (h0 : vN f 31 = (0)) (h2 : ¬ vA c 512 = (0)) (h3 : ¬ (f : Int) = (25))
abbrev T_L_field2_10 : Tab := (RC b (e9t 8 (0) ++ (e9f 4 (0) ++ (e9f 2 (25) ++ ([])))) (by letI := Tab.empty; exact (allApp (e9t_ok rfl h0) (allApp (e9f_ok rfl h2) (allApp (e9f_ok rfl h3) ibNil))))).tab
theorem L_field2_10_run : @inRun Tryz.prog (T_L_field2_10 b h0 h2 h3) ((H_single_f_true).or H_CF0a) 5000 C_field2_1 = true := (by as_aux_lemma => kernel_rfl)
end
theorem L_field2_10 {m c f k : Nat} (b : Bd m c f k) (h0 : vN f 31 = (0)) (h1 : acc f = true) (h2 : ¬ vA c 512 = (0)) (h3 : ¬ (f : Int) = (25)) : @InOk Tryz.prog C_field2_1 (TB m c f k) := by
  letI : Tab := (T_L_field2_10 b h0 h2 h3)
  exact InOk.tab (VRows.same _ _) (InOk.of_run (K := ((H_single_f_true).or H_CF0a)) (n := 5000) mixed (HandOk.or (H_single_f_true_ok b h1 (VRows.same _ _)) H_CF0a_ok) (by kernel_rfl) (L_field2_10_run b h0 h2 h3))
section
variable {m c f k : Nat} (b : Bd m c f k) (h0 : vN f 31 = (0)) (h2 : ¬ vA c 512 = (0)) (h3 : ¬ (f : Int) = (25))
abbrev T_L_field3_11 : Tab := (RC b (e9t 8 (0) ++ (e9f 4 (0) ++ (e9f 2 (25) ++ ([])))) (by letI := Tab.empty; exact (allApp (e9t_ok rfl h0) (allApp (e9f_ok rfl h2) (allApp (e9f_ok rfl h3) ibNil))))).tab
theorem L_field3_11_run : @inRun Tryz.prog (T_L_field3_11 b h0 h2 h3) ((H_single_f_true).or H_CF0a) 5000 C_field3_1 = true := (by as_aux_lemma => kernel_rfl)
end
theorem L_field3_11 {m c f k : Nat} (b : Bd m c f k) (h0 : vN f 31 = (0)) (h1 : acc f = true) (h2 : ¬ vA c 512 = (0)) (h3 : ¬ (f : Int) = (25)) : @InOk Tryz.prog C_field3_1 (TB m c f k) := by
  letI : Tab := (T_L_field3_11 b h0 h2 h3)
  exact InOk.tab (VRows.same _ _) (InOk.of_run (K := ((H_single_f_true).or H_CF0a)) (n := 5000) mixed (HandOk.or (H_single_f_true_ok b h1 (VRows.same _ _)) H_CF0a_ok) (by kernel_rfl) (L_field3_11_run b h0 h2 h3))
section
variable {m c f k : Nat} (b : Bd m c f k) (h0 : vN f 31 = (0)) (h2 : ¬ vA c 512 = (0)) (h3 : ¬ (f : Int) = (25))
abbrev T_L_field5_12 : Tab := (RC b (e9t 8 (0) ++ (e9f 4 (0) ++ (e9f 2 (25) ++ ([])))) (by letI := Tab.empty; exact (allApp (e9t_ok rfl h0) (allApp (e9f_ok rfl h2) (allApp (e9f_ok rfl h3) ibNil))))).tab
theorem L_field5_12_run : @inRun Tryz.prog (T_L_field5_12 b h0 h2 h3) ((H_single_f_true).or H_CF0a) 5000 C_field5_0 = true := (by as_aux_lemma => kernel_rfl)
end
theorem L_field5_12 {m c f k : Nat} (b : Bd m c f k) (h0 : vN f 31 = (0)) (h1 : acc f = true) (h2 : ¬ vA c 512 = (0)) (h3 : ¬ (f : Int) = (25)) : @InOk Tryz.prog C_field5_0 (TB m c f k) := by
  letI : Tab := (T_L_field5_12 b h0 h2 h3)
  exact InOk.tab (VRows.same _ _) (InOk.of_run (K := ((H_single_f_true).or H_CF0a)) (n := 5000) mixed (HandOk.or (H_single_f_true_ok b h1 (VRows.same _ _)) H_CF0a_ok) (by kernel_rfl) (L_field5_12_run b h0 h2 h3))
section
variable {m c f k : Nat} (b : Bd m c f k) (h0 : vN f 31 = (0)) (h2 : ¬ vA c 512 = (0)) (h3 : ¬ (f : Int) = (25))
abbrev T_L_field6_13 : Tab := (RC b (e9t 8 (0) ++ (e9f 4 (0) ++ (e9f 2 (25) ++ ([])))) (by letI := Tab.empty; exact (allApp (e9t_ok rfl h0) (allApp (e9f_ok rfl h2) (allApp (e9f_ok rfl h3) ibNil))))).tab
theorem L_field6_13_run : @inRun Tryz.prog (T_L_field6_13 b h0 h2 h3) ((H_single_f_true).or H_CF0a) 5000 C_field6_0 = true := (by as_aux_lemma => kernel_rfl)
end
theorem L_field6_13 {m c f k : Nat} (b : Bd m c f k) (h0 : vN f 31 = (0)) (h1 : acc f = true) (h2 : ¬ vA c 512 = (0)) (h3 : ¬ (f : Int) = (25)) : @InOk Tryz.prog C_field6_0 (TB m c f k) := by
  letI : Tab := (T_L_field6_13 b h0 h2 h3)
  exact InOk.tab (VRows.same _ _) (InOk.of_run (K := ((H_single_f_true).or H_CF0a)) (n := 5000) mixed (HandOk.or (H_single_f_true_ok b h1 (VRows.same _ _)) H_CF0a_ok) (by kernel_rfl) (L_field6_13_run b h0 h2 h3))
section
variable {m c f k : Nat} (b : Bd m c f k) (h0 : ¬ vN f 31 = (0)) (h1 : vA c 512 = (0))
abbrev T_L_field2_14 : Tab := (RC b (e9f 8 (0) ++ (e9t 4 (0) ++ ([]))) (by letI := Tab.empty; exact (allApp (e9f_ok rfl h0) (allApp (e9t_ok rfl h1) ibNil)))).tab
theorem L_field2_14_run : @inRun Tryz.prog (T_L_field2_14 b h0 h1) H_CF0a 5000 C_field2_1 = true := (by as_aux_lemma => kernel_rfl)
end
theorem L_field2_14 {m c f k : Nat} (b : Bd m c f k) (h0 : ¬ vN f 31 = (0)) (h1 : vA c 512 = (0)) : @InOk Tryz.prog C_field2_1 (TB m c f k) := by
  letI : Tab := (T_L_field2_14 b h0 h1)
  exact InOk.tab (VRows.same _ _) (InOk.of_run (K := H_CF0a) (n := 5000) mixed H_CF0a_ok (by kernel_rfl) (L_field2_14_run b h0 h1))
section
variable {m c f k : Nat} (b : Bd m c f k) (h0 : ¬ vN f 31 = (0)) (h1 : vA c 512 = (0))
abbrev T_L_field3_15 : Tab := (RC b (e9f 8 (0) ++ (e9t 4 (0) ++ ([]))) (by letI := Tab.empty; exact (allApp (e9f_ok rfl h0) (allApp (e9t_ok rfl h1) ibNil)))).tab
theorem L_field3_15_run : @inRun Tryz.prog (T_L_field3_15 b h0 h1) H_CF0a 5000 C_field3_1 = true := (by as_aux_lemma => kernel_rfl)
end
theorem L_field3_15 {m c f k : Nat} (b : Bd m c f k) (h0 : ¬ vN f 31 = (0)) (h1 : vA c 512 = (0)) : @InOk Tryz.prog C_field3_1 (TB m c f k) := by
  letI : Tab := (T_L_field3_15 b h0 h1)
  exact InOk.tab (VRows.same _ _) (InOk.of_run (K := H_CF0a) (n := 5000) mixed H_CF0a_ok (by kernel_rfl) (L_field3_15_run b h0 h1))
section
variable {m c f k : Nat} (b : Bd m c f k) (h0 : ¬ vN f 31 = (0)) (h1 : vA c 512 = (0))
abbrev T_L_field5_16 : Tab := (RC b (e9f 8 (0) ++ (e9t 4 (0) ++ ([]))) (by letI := Tab.empty; exact (allApp (e9f_ok rfl h0) (allApp (e9t_ok rfl h1) ibNil)))).tab
theorem L_field5_16_run : @inRun Tryz.prog (T_L_field5_16 b h0 h1) H_CF0a 5000 C_field5_0 = true := (by as_aux_lemma => kernel_rfl)
end
theorem L_field5_16 {m c f k : Nat} (b : Bd m c f k) (h0 : ¬ vN f 31 = (0)) (h1 : vA c 512 = (0)) : @InOk Tryz.prog C_field5_0 (TB m c f k) := by
  letI : Tab := (T_L_field5_16 b h0 h1)
  exact InOk.tab (VRows.same _ _) (InOk.of_run (K := H_CF0a) (n := 5000) mixed H_CF0a_ok (by kernel_rfl) (L_field5_16_run b h0 h1))
section
variable {m c f k : Nat} (b : Bd m c f k) (h0 : ¬ vN f 31 = (0)) (h1 : vA c 512 = (0))
abbrev T_L_field6_17 : Tab := (RC b (e9f 8 (0) ++ (e9t 4 (0) ++ ([]))) (by letI := Tab.empty; exact (allApp (e9f_ok rfl h0) (allApp (e9t_ok rfl h1) ibNil)))).tab
theorem L_field6_17_run : @inRun Tryz.prog (T_L_field6_17 b h0 h1) H_CF0a 5000 C_field6_0 = true := (by as_aux_lemma => kernel_rfl)
end
theorem L_field6_17 {m c f k : Nat} (b : Bd m c f k) (h0 : ¬ vN f 31 = (0)) (h1 : vA c 512 = (0)) : @InOk Tryz.prog C_field6_0 (TB m c f k) := by
  letI : Tab := (T_L_field6_17 b h0 h1)
  exact InOk.tab (VRows.same _ _) (InOk.of_run (K := H_CF0a) (n := 5000) mixed H_CF0a_ok (by kernel_rfl) (L_field6_17_run b h0 h1))
section
variable {m c f k : Nat} (b : Bd m c f k) (h0 : ¬ vN f 31 = (0)) (h1 : ¬ vA c 512 = (0)) (h2 : ¬ (f : Int) = (25))
abbrev T_L_field2_18 : Tab := (RC b (e9f 8 (0) ++ (e9f 4 (0) ++ (e9f 2 (25) ++ ([])))) (by letI := Tab.empty; exact (allApp (e9f_ok rfl h0) (allApp (e9f_ok rfl h1) (allApp (e9f_ok rfl h2) ibNil))))).tab
theorem L_field2_18_run : @inRun Tryz.prog (T_L_field2_18 b h0 h1 h2) H_CF0a 5000 C_field2_1 = true := (by as_aux_lemma => kernel_rfl)
end
theorem L_field2_18 {m c f k : Nat} (b : Bd m c f k) (h0 : ¬ vN f 31 = (0)) (h1 : ¬ vA c 512 = (0)) (h2 : ¬ (f : Int) = (25)) : @InOk Tryz.prog C_field2_1 (TB m c f k) := by
  letI : Tab := (T_L_field2_18 b h0 h1 h2)
  exact InOk.tab (VRows.same _ _) (InOk.of_run (K := H_CF0a) (n := 5000) mixed H_CF0a_ok (by kernel_rfl) (L_field2_18_run b h0 h1 h2))
section
variable {m c f k : Nat} (b : Bd m c f k) (h0 : ¬ vN f 31 = (0)) (h1 : ¬ vA c 512 = (0)) (h2 : ¬ (f : Int) = (25))
abbrev T_L_field3_19 : Tab := (RC b (e9f 8 (0) ++ (e9f 4 (0) ++ (e9f 2 (25) ++ ([])))) (by letI := Tab.empty; exact (allApp (e9f_ok rfl h0) (allApp (e9f_ok rfl h1) (allApp (e9f_ok rfl h2) ibNil))))).tab
theorem L_field3_19_run : @inRun Tryz.prog (T_L_field3_19 b h0 h1 h2) H_CF0a 5000 C_field3_1 = true := (by as_aux_lemma => kernel_rfl)
end
theorem L_field3_19 {m c f k : Nat} (b : Bd m c f k) (h0 : ¬ vN f 31 = (0)) (h1 : ¬ vA c 512 = (0)) (h2 : ¬ (f : Int) = (25)) : @InOk Tryz.prog C_field3_1 (TB m c f k) := by
  letI : Tab := (T_L_field3_19 b h0 h1 h2)
  exact InOk.tab (VRows.same _ _) (InOk.of_run (K := H_CF0a) (n := 5000) mixed H_CF0a_ok (by kernel_rfl) (L_field3_19_run b h0 h1 h2))
section
variable {m c f k : Nat} (b : Bd m c f k) (h0 : ¬ vN f 31 = (0)) (h1 : ¬ vA c 512 = (0)) (h2 : ¬ (f : Int) = (25))
abbrev T_L_field5_20 : Tab := (RC b (e9f 8 (0) ++ (e9f 4 (0) ++ (e9f 2 (25) ++ ([])))) (by letI := Tab.empty; exact (allApp (e9f_ok rfl h0) (allApp (e9f_ok rfl h1) (allApp (e9f_ok rfl h2) ibNil))))).tab
theorem L_field5_20_run : @inRun Tryz.prog (T_L_field5_20 b h0 h1 h2) H_CF0a 5000 C_field5_0 = true := (by as_aux_lemma => kernel_rfl)
end
theorem L_field5_20 {m c f k : Nat} (b : Bd m c f k) (h0 : ¬ vN f 31 = (0)) (h1 : ¬ vA c 512 = (0)) (h2 : ¬ (f : Int) = (25)) : @InOk Tryz.prog C_field5_0 (TB m c f k) := by
  letI : Tab := (T_L_field5_20 b h0 h1 h2)
  exact InOk.tab (VRows.same _ _) (InOk.of_run (K := H_CF0a) (n := 5000) mixed H_CF0a_ok (by kernel_rfl) (L_field5_20_run b h0 h1 h2))
section
variable {m c f k : Nat} (b : Bd m c f k) (h0 : ¬ vN f 31 = (0)) (h1 : ¬ vA c 512 = (0)) (h2 : ¬ (f : Int) = (25))
abbrev T_L_field6_21 : Tab := (RC b (e9f 8 (0) ++ (e9f 4 (0) ++ (e9f 2 (25) ++ ([])))) (by letI := Tab.empty; exact (allApp (e9f_ok rfl h0) (allApp (e9f_ok rfl h1) (allApp (e9f_ok rfl h2) ibNil))))).tab
theorem L_field6_21_run : @inRun Tryz.prog (T_L_field6_21 b h0 h1 h2) H_CF0a 5000 C_field6_0 = true := (by as_aux_lemma => kernel_rfl)
end
theorem L_field6_21 {m c f k : Nat} (b : Bd m c f k) (h0 : ¬ vN f 31 = (0)) (h1 : ¬ vA c 512 = (0)) (h2 : ¬ (f : Int) = (25)) : @InOk Tryz.prog C_field6_0 (TB m c f k) := by
  letI : Tab := (T_L_field6_21 b h0 h1 h2)
  exact InOk.tab (VRows.same _ _) (InOk.of_run (K := H_CF0a) (n := 5000) mixed H_CF0a_ok (by kernel_rfl) (L_field6_21_run b h0 h1 h2))
section
variable {m c f k : Nat} (b : Bd m c f k) (h0 : vN f 31 = (0)) (h2 : ¬ vA c 512 = (0)) (h3 : ¬ (f : Int) = (25))
abbrev T_L_field2_22 : Tab := (RC b (e9t 8 (0) ++ (e9f 4 (0) ++ (e9f 2 (25) ++ ([])))) (by letI := Tab.empty; exact (allApp (e9t_ok rfl h0) (allApp (e9f_ok rfl h2) (allApp (e9f_ok rfl h3) ibNil))))).tab
theorem L_field2_22_run : @inRun Tryz.prog (T_L_field2_22 b h0 h2 h3) ((H_single_f_false).or H_CF0a) 5000 C_field2_1 = true := (by as_aux_lemma => kernel_rfl)
end
theorem L_field2_22 {m c f k : Nat} (b : Bd m c f k) (h0 : vN f 31 = (0)) (h1 : acc f = false) (h2 : ¬ vA c 512 = (0)) (h3 : ¬ (f : Int) = (25)) : @InOk Tryz.prog C_field2_1 (TB m c f k) := by
  letI : Tab := (T_L_field2_22 b h0 h2 h3)
  exact InOk.tab (VRows.same _ _) (InOk.of_run (K := ((H_single_f_false).or H_CF0a)) (n := 5000) mixed (HandOk.or (H_single_f_false_ok b h1 (VRows.same _ _)) H_CF0a_ok) (by kernel_rfl) (L_field2_22_run b h0 h2 h3))
section
variable {m c f k : Nat} (b : Bd m c f k) (h0 : vN f 31 = (0)) (h2 : ¬ vA c 512 = (0)) (h3 : ¬ (f : Int) = (25))
abbrev T_L_field3_23 : Tab := (RC b (e9t 8 (0) ++ (e9f 4 (0) ++ (e9f 2 (25) ++ ([])))) (by letI := Tab.empty; exact (allApp (e9t_ok rfl h0) (allApp (e9f_ok rfl h2) (allApp (e9f_ok rfl h3) ibNil))))).tab
theorem L_field3_23_run : @inRun Tryz.prog (T_L_field3_23 b h0 h2 h3) ((H_single_f_false).or H_CF0a) 5000 C_field3_1 = true := (by as_aux_lemma => kernel_rfl)
end
theorem L_field3_23 {m c f k : Nat} (b : Bd m c f k) (h0 : vN f 31 = (0)) (h1 : acc f = false) (h2 : ¬ vA c 512 = (0)) (h3 : ¬ (f : Int) = (25)) : @InOk Tryz.prog C_field3_1 (TB m c f k) := by
  letI : Tab := (T_L_field3_23 b h0 h2 h3)
  exact InOk.tab (VRows.same _ _) (InOk.of_run (K := ((H_single_f_false).or H_CF0a)) (n := 5000) mixed (HandOk.or (H_single_f_false_ok b h1 (VRows.same _ _)) H_CF0a_ok) (by kernel_rfl) (L_field3_23_run b h0 h2 h3))
section
variable {m c f k : Nat} (b : Bd m c f k) (h0 : vN f 31 = (0)) (h2 : ¬ vA c 512 = (0)) (h3 : ¬ (f : Int) = (25))
abbrev T_L_field5_24 : Tab := (RC b (e9t 8 (0) ++ (e9f 4 (0) ++ (e9f 2 (25) ++ ([])))) (by letI := Tab.empty; exact (allApp (e9t_ok rfl h0) (allApp (e9f_ok rfl h2) (allApp (e9f_ok rfl h3) ibNil))))).tab
theorem L_field5_24_run : @inRun Tryz.prog (T_L_field5_24 b h0 h2 h3) ((H_single_f_false).or H_CF0a) 5000 C_field5_0 = true := (by as_aux_lemma => kernel_rfl)
end
theorem L_field5_24 {m c f k : Nat} (b : Bd m c f k) (h0 : vN f 31 = (0)) (h1 : acc f = false) (h2 : ¬ vA c 512 = (0)) (h3 : ¬ (f : Int) = (25)) : @InOk Tryz.prog C_field5_0 (TB m c f k) := by
  letI : Tab := (T_L_field5_24 b h0 h2 h3)
  exact InOk.tab (VRows.same _ _) (InOk.of_run (K := ((H_single_f_false).or H_CF0a)) (n := 5000) mixed (HandOk.or (H_single_f_false_ok b h1 (VRows.same _ _)) H_CF0a_ok) (by kernel_rfl) (L_field5_24_run b h0 h2 h3))
section
variable {m c f k : Nat} (b : Bd m c f k) (h0 : vN f 31 = (0)) (h2 : ¬ vA c 512 = (0)) (h3 : ¬ (f : Int) = (25))
abbrev T_L_field6_25 : Tab := (RC b (e9t 8 (0) ++ (e9f 4 (0) ++ (e9f 2 (25) ++ ([])))) (by letI := Tab.empty; exact (allApp (e9t_ok rfl h0) (allApp (e9f_ok rfl h2) (allApp (e9f_ok rfl h3) ibNil))))).tab
theorem L_field6_25_run : @inRun Tryz.prog (T_L_field6_25 b h0 h2 h3) ((H_single_f_false).or H_CF0a) 5000 C_field6_0 = true := (by as_aux_lemma => kernel_rfl)
end
theorem L_field6_25 {m c f k : Nat} (b : Bd m c f k) (h0 : vN f 31 = (0)) (h1 : acc f = false) (h2 : ¬ vA c 512 = (0)) (h3 : ¬ (f : Int) = (25)) : @InOk Tryz.prog C_field6_0 (TB m c f k) := by
  letI : Tab := (T_L_field6_25 b h0 h2 h3)
  exact InOk.tab (VRows.same _ _) (InOk.of_run (K := ((H_single_f_false).or H_CF0a)) (n := 5000) mixed (HandOk.or (H_single_f_false_ok b h1 (VRows.same _ _)) H_CF0a_ok) (by kernel_rfl) (L_field6_25_run b h0 h2 h3))
section
variable {m c f k : Nat} (b : Bd m c f k) (h0 : vN f 31 = (0)) (h2 : vA c 512 = (0))
abbrev T_L_field2_26 : Tab := (RC b (e9t 8 (0) ++ (e9t 4 (0) ++ ([]))) (by letI := Tab.empty; exact (allApp (e9t_ok rfl h0) (allApp (e9t_ok rfl h2) ibNil)))).tab
theorem L_field2_26_run : @inRun Tryz.prog (T_L_field2_26 b h0 h2) ((H_single_f_false).or H_CF0a) 5000 C_field2_1 = true := (by as_aux_lemma => kernel_rfl)
end
theorem L_field2_26 {m c f k : Nat} (b : Bd m c f k) (h0 : vN f 31 = (0)) (h1 : acc f = false) (h2 : vA c 512 = (0)) : @InOk Tryz.prog C_field2_1 (TB m c f k) := by
  letI : Tab := (T_L_field2_26 b h0 h2)
  exact InOk.tab (VRows.same _ _) (InOk.of_run (K := ((H_single_f_false).or H_CF0a)) (n := 5000) mixed (HandOk.or (H_single_f_false_ok b h1 (VRows.same _ _)) H_CF0a_ok) (by kernel_rfl) (L_field2_26_run b h0 h2))
section
variable {m c f k : Nat} (b : Bd m c f k) (h0 : vN f 31 = (0)) (h2 : vA c 512 = (0))
abbrev T_L_field3_27 : Tab := (RC b (e9t 8 (0) ++ (e9t 4 (0) ++ ([]))) (by letI := Tab.empty; exact (allApp (e9t_ok rfl h0) (allApp (e9t_ok rfl h2) ibNil)))).tab
theorem L_field3_27_run : @inRun Tryz.prog (T_L_field3_27 b h0 h2) ((H_single_f_false).or H_CF0a) 5000 C_field3_1 = true := (by as_aux_lemma => kernel_rfl)
end
theorem L_field3_27 {m c f k : Nat} (b : Bd m c f k) (h0 : vN f 31 = (0)) (h1 : acc f = false) (h2 : vA c 512 = (0)) : @InOk Tryz.prog C_field3_1 (TB m c f k) := by
  letI : Tab := (T_L_field3_27 b h0 h2)
  exact InOk.tab (VRows.same _ _) (InOk.of_run (K := ((H_single_f_false).or H_CF0a)) (n := 5000) mixed (HandOk.or (H_single_f_false_ok b h1 (VRows.same _ _)) H_CF0a_ok) (by kernel_rfl) (L_field3_27_run b h0 h2))
section
variable {m c f k : Nat} (b : Bd m c f k) (h0 : vN f 31 = (0)) (h2 : vA c 512 = (0))
abbrev T_L_field5_28 : Tab := (RC b (e9t 8 (0) ++ (e9t 4 (0) ++ ([]))) (by letI := Tab.empty; exact (allApp (e9t_ok rfl h0) (allApp (e9t_ok rfl h2) ibNil)))).tab
theorem L_field5_28_run : @inRun Tryz.prog (T_L_field5_28 b h0 h2) ((H_single_f_false).or H_CF0a) 5000 C_field5_0 = true := (by as_aux_lemma => kernel_rfl)
end
theorem L_field5_28 {m c f k : Nat} (b : Bd m c f k) (h0 : vN f 31 = (0)) (h1 : acc f = false) (h2 : vA c 512 = (0)) : @InOk Tryz.prog C_field5_0 (TB m c f k) := by
  letI : Tab := (T_L_field5_28 b h0 h2)
  exact InOk.tab (VRows.same _ _) (InOk.of_run (K := ((H_single_f_false).or H_CF0a)) (n := 5000) mixed (HandOk.or (H_single_f_false_ok b h1 (VRows.same _ _)) H_CF0a_ok) (by kernel_rfl) (L_field5_28_run b h0 h2))
section
variable {m c f k : Nat} (b : Bd m c f k) (h0 : vN f 31 = (0)) (h2 : vA c 512 = (0))
abbrev T_L_field6_29 : Tab := (RC b (e9t 8 (0) ++ (e9t 4 (0) ++ ([]))) (by letI := Tab.empty; exact (allApp (e9t_ok rfl h0) (allApp (e9t_ok rfl h2) ibNil)))).tab
theorem L_field6_29_run : @inRun Tryz.prog (T_L_field6_29 b h0 h2) ((H_single_f_false).or H_CF0a) 5000 C_field6_0 = true := (by as_aux_lemma => kernel_rfl)
end
theorem L_field6_29 {m c f k : Nat} (b : Bd m c f k) (h0 : vN f 31 = (0)) (h1 : acc f = false) (h2 : vA c 512 = (0)) : @InOk Tryz.prog C_field6_0 (TB m c f k) := by
  letI : Tab := (T_L_field6_29 b h0 h2)
  exact InOk.tab (VRows.same _ _) (InOk.of_run (K := ((H_single_f_false).or H_CF0a)) (n := 5000) mixed (HandOk.or (H_single_f_false_ok b h1 (VRows.same _ _)) H_CF0a_ok) (by kernel_rfl) (L_field6_29_run b h0 h2))
end Go.Proofs.YtlfinnicdpiaaaaGreatDoor.cf
