/-
  Runs of method under the flags by name.
-/
import Derived.Test.YtlfinnicdpiaaaaGreatDoorXN3
import Derived.Test.YtlfinnicdpiaaaaGreatDoorCFB
import Derived.Test.YtlfinnicdpiaaaaGreatDoorCFC
import Derived.KernelRfl
set_option linter.unusedVariables false
set_option linter.unusedSimpArgs false
set_option maxRecDepth 1000000
set_option maxHeartbeats 0
namespace Go.Proofs.YtlfinnicdpiaaaaGreatDoor.cf
open Go.X Go.RowKit
section
variable {m c f k : Nat} (b : Bd m c f k) (h0 : ¬ vA c 512 = (0)) (h1 : ¬ vN k 1055 = (0)) (h2 : ¬ vA k 8 = (0)) (h3 : ¬ vA k 1024 = (0))
abbrev T_L_method0_0 : Tab := (RC b (e9f 4 (0) ++ (e9f 10 (0) ++ (e9f 72 (0) ++ (e9f 5 (0) ++ ([]))))) (by letI := Tab.empty; exact (allApp (e9f_ok rfl h0) (allApp (e9f_ok rfl h1) (allApp (e9f_ok rfl h2) (allApp (e9f_ok rfl h3) ibNil)))))).tab
theorem L_method0_0_run : @inRun Tryz.prog (T_L_method0_0 b h0 h1 h2 h3) H_CF0a 5000 C_method0_0 = true := (by as_aux_lemma => kernel_rfl)
end
theorem L_method0_0 {m c f k : Nat} (b : Bd m c f k) (h0 : ¬ vA c 512 = (0)) (h1 : ¬ vN k 1055 = (0)) (h2 : ¬ vA k 8 = (0)) (h3 : ¬ vA k 1024 = (0)) : @InOk Tryz.prog C_method0_0 (TB m c f k) := by
  letI : Tab := (T_L_method0_0 b h0 h1 h2 h3)
  exact InOk.tab (VRows.same _ _) (InOk.of_run (K := H_CF0a) (n := 5000) mixed H_CF0a_ok (by kernel_rfl) (L_method0_0_run b h0 h1 h2 h3))
section
variable {m c f k : Nat} (b : Bd m c f k) (h0 : ¬ vA c 512 = (0)) (h1 : ¬ vN k 1055 = (0)) (h2 : ¬ vA k 8 = (0)) (h3 : ¬ vA k 1024 = (0))
abbrev T_L_method2_1 : Tab := (RC b (e9f 4 (0) ++ (e9f 10 (0) ++ (e9f 72 (0) ++ (e9f 5 (0) ++ ([]))))) (by letI := Tab.empty; exact (allApp (e9f_ok rfl h0) (allApp (e9f_ok rfl h1) (allApp (e9f_ok rfl h2) (allApp (e9f_ok rfl h3) ibNil)))))).tab
theorem L_method2_1_run : @inRun Tryz.prog (T_L_method2_1 b h0 h1 h2 h3) H_CF0a 5000 C_method2_0 = true := (by as_aux_lemma => kernel_rfl)
end
theorem L_method2_1 {m c f k : Nat} (b : Bd m c f k) (h0 : ¬ vA c 512 = (0)) (h1 : ¬ vN k 1055 = (0)) (h2 : ¬ vA k 8 = (0)) (h3 : ¬ vA k 1024 = (0)) : @InOk Tryz.prog C_method2_0 (TB m c f k) := by
  letI : Tab := (T_L_method2_1 b h0 h1 h2 h3)
  exact InOk.tab (VRows.same _ _) (InOk.of_run (K := H_CF0a) (n := 5000) mixed H_CF0a_ok (by kernel_rfl) (L_method2_1_run b h0 h1 h2 h3))
section
variable {m c f k : Nat} (b : Bd m c f k) (h0 : ¬ vA c 512 = (0)) (h1 : ¬ vN k 1055 = (0)) (h2 : vA k 8 = (0)) (h3 : ¬ vA k 1024 = (0))
abbrev T_L_method0_2 : Tab := (RC b (e9f 4 (0) ++ (e9f 10 (0) ++ (e9t 72 (0) ++ (e9f 5 (0) ++ ([]))))) (by letI := Tab.empty; exact (allApp (e9f_ok rfl h0) (allApp (e9f_ok rfl h1) (allApp (e9t_ok rfl h2) (allApp (e9f_ok rfl h3) ibNil)))))).tab
theorem L_method0_2_run : @inRun Tryz.prog (T_L_method0_2 b h0 h1 h2 h3) H_CF0a 5000 C_method0_1 = true := (by as_aux_lemma => kernel_rfl)
end
theorem L_method0_2 {m c f k : Nat} (b : Bd m c f k) (h0 : ¬ vA c 512 = (0)) (h1 : ¬ vN k 1055 = (0)) (h2 : vA k 8 = (0)) (h3 : ¬ vA k 1024 = (0)) : @InOk Tryz.prog C_method0_1 (TB m c f k) := by
  letI : Tab := (T_L_method0_2 b h0 h1 h2 h3)
  exact InOk.tab (VRows.same _ _) (InOk.of_run (K := H_CF0a) (n := 5000) mixed H_CF0a_ok (by kernel_rfl) (L_method0_2_run b h0 h1 h2 h3))
section
variable {m c f k : Nat} (b : Bd m c f k) (h0 : ¬ vA c 512 = (0)) (h1 : ¬ vN k 1055 = (0)) (h2 : vA k 8 = (0)) (h3 : ¬ vA k 1024 = (0))
abbrev T_L_method2_3 : Tab := (RC b (e9f 4 (0) ++ (e9f 10 (0) ++ (e9t 72 (0) ++ (e9f 5 (0) ++ ([]))))) (by letI := Tab.empty; exact (allApp (e9f_ok rfl h0) (allApp (e9f_ok rfl h1) (allApp (e9t_ok rfl h2) (allApp (e9f_ok rfl h3) ibNil)))))).tab
theorem L_method2_3_run : @inRun Tryz.prog (T_L_method2_3 b h0 h1 h2 h3) H_CF0a 5000 C_method2_1 = true := (by as_aux_lemma => kernel_rfl)
end
theorem L_method2_3 {m c f k : Nat} (b : Bd m c f k) (h0 : ¬ vA c 512 = (0)) (h1 : ¬ vN k 1055 = (0)) (h2 : vA k 8 = (0)) (h3 : ¬ vA k 1024 = (0)) : @InOk Tryz.prog C_method2_1 (TB m c f k) := by
  letI : Tab := (T_L_method2_3 b h0 h1 h2 h3)
  exact InOk.tab (VRows.same _ _) (InOk.of_run (K := H_CF0a) (n := 5000) mixed H_CF0a_ok (by kernel_rfl) (L_method2_3_run b h0 h1 h2 h3))
section
variable {m c f k : Nat} (b : Bd m c f k) (h0 : ¬ vA c 512 = (0)) (h1 : vN k 1055 = (0)) (h3 : ¬ vA k 1024 = (0)) (h4 : ¬ vA k 26 = (0)) (h5 : vA k 8 = (0))
abbrev T_L_method0_4 : Tab := (RC b (e9f 4 (0) ++ (e9t 10 (0) ++ (e9f 5 (0) ++ (e9f 73 (0) ++ (e9t 72 (0) ++ ([])))))) (by letI := Tab.empty; exact (allApp (e9f_ok rfl h0) (allApp (e9t_ok rfl h1) (allApp (e9f_ok rfl h3) (allApp (e9f_ok rfl h4) (allApp (e9t_ok rfl h5) ibNil))))))).tab
theorem L_method0_4_run : @inRun Tryz.prog (T_L_method0_4 b h0 h1 h3 h4 h5) ((H_single_k_true).or H_CF0a) 5000 C_method0_1 = true := (by as_aux_lemma => kernel_rfl)
end
theorem L_method0_4 {m c f k : Nat} (b : Bd m c f k) (h0 : ¬ vA c 512 = (0)) (h1 : vN k 1055 = (0)) (h2 : acc k = true) (h3 : ¬ vA k 1024 = (0)) (h4 : ¬ vA k 26 = (0)) (h5 : vA k 8 = (0)) : @InOk Tryz.prog C_method0_1 (TB m c f k) := by
  letI : Tab := (T_L_method0_4 b h0 h1 h3 h4 h5)
  exact InOk.tab (VRows.same _ _) (InOk.of_run (K := ((H_single_k_true).or H_CF0a)) (n := 5000) mixed (HandOk.or (H_single_k_true_ok b h2 (VRows.same _ _)) H_CF0a_ok) (by kernel_rfl) (L_method0_4_run b h0 h1 h3 h4 h5))
section
variable {m c f k : Nat} (b : Bd m c f k) (h0 : ¬ vA c 512 = (0)) (h1 : vN k 1055 = (0)) (h3 : ¬ vA k 1024 = (0)) (h4 : ¬ vA k 26 = (0)) (h5 : vA k 8 = (0))
abbrev T_L_method2_5 : Tab := (RC b (e9f 4 (0) ++ (e9t 10 (0) ++ (e9f 5 (0) ++ (e9f 73 (0) ++ (e9t 72 (0) ++ ([])))))) (by letI := Tab.empty; exact (allApp (e9f_ok rfl h0) (allApp (e9t_ok rfl h1) (allApp (e9f_ok rfl h3) (allApp (e9f_ok rfl h4) (allApp (e9t_ok rfl h5) ibNil))))))).tab
theorem L_method2_5_run : @inRun Tryz.prog (T_L_method2_5 b h0 h1 h3 h4 h5) ((H_single_k_true).or H_CF0a) 5000 C_method2_1 = true := (by as_aux_lemma => kernel_rfl)
end
theorem L_method2_5 {m c f k : Nat} (b : Bd m c f k) (h0 : ¬ vA c 512 = (0)) (h1 : vN k 1055 = (0)) (h2 : acc k = true) (h3 : ¬ vA k 1024 = (0)) (h4 : ¬ vA k 26 = (0)) (h5 : vA k 8 = (0)) : @InOk Tryz.prog C_method2_1 (TB m c f k) := by
  letI : Tab := (T_L_method2_5 b h0 h1 h3 h4 h5)
  exact InOk.tab (VRows.same _ _) (InOk.of_run (K := ((H_single_k_true).or H_CF0a)) (n := 5000) mixed (HandOk.or (H_single_k_true_ok b h2 (VRows.same _ _)) H_CF0a_ok) (by kernel_rfl) (L_method2_5_run b h0 h1 h3 h4 h5))
section
variable {m c f k : Nat} (b : Bd m c f k) (h0 : ¬ vA c 512 = (0)) (h1 : vN k 1055 = (0)) (h3 : ¬ vA k 8 = (0)) (h4 : ¬ vA k 1024 = (0))
abbrev T_L_method0_6 : Tab := (RC b (e9f 4 (0) ++ (e9t 10 (0) ++ (e9f 72 (0) ++ (e9f 5 (0) ++ ([]))))) (by letI := Tab.empty; exact (allApp (e9f_ok rfl h0) (allApp (e9t_ok rfl h1) (allApp (e9f_ok rfl h3) (allApp (e9f_ok rfl h4) ibNil)))))).tab
theorem L_method0_6_run : @inRun Tryz.prog (T_L_method0_6 b h0 h1 h3 h4) ((H_single_k_false).or H_CF0a) 5000 C_method0_0 = true := (by as_aux_lemma => kernel_rfl)
end
theorem L_method0_6 {m c f k : Nat} (b : Bd m c f k) (h0 : ¬ vA c 512 = (0)) (h1 : vN k 1055 = (0)) (h2 : acc k = false) (h3 : ¬ vA k 8 = (0)) (h4 : ¬ vA k 1024 = (0)) : @InOk Tryz.prog C_method0_0 (TB m c f k) := by
  letI : Tab := (T_L_method0_6 b h0 h1 h3 h4)
  exact InOk.tab (VRows.same _ _) (InOk.of_run (K := ((H_single_k_false).or H_CF0a)) (n := 5000) mixed (HandOk.or (H_single_k_false_ok b h2 (VRows.same _ _)) H_CF0a_ok) (by kernel_rfl) (L_method0_6_run b h0 h1 h3 h4))
section
variable {m c f k : Nat} (b : Bd m c f k) (h0 : ¬ vA c 512 = (0)) (h1 : vN k 1055 = (0)) (h3 : ¬ vA k 8 = (0)) (h4 : ¬ vA k 1024 = (0))
abbrev T_L_method2_7 : Tab := (RC b (e9f 4 (0) ++ (e9t 10 (0) ++ (e9f 72 (0) ++ (e9f 5 (0) ++ ([]))))) (by letI := Tab.empty; exact (allApp (e9f_ok rfl h0) (allApp (e9t_ok rfl h1) (allApp (e9f_ok rfl h3) (allApp (e9f_ok rfl h4) ibNil)))))).tab
theorem L_method2_7_run : @inRun Tryz.prog (T_L_method2_7 b h0 h1 h3 h4) ((H_single_k_false).or H_CF0a) 5000 C_method2_0 = true := (by as_aux_lemma => kernel_rfl)
end
theorem L_method2_7 {m c f k : Nat} (b : Bd m c f k) (h0 : ¬ vA c 512 = (0)) (h1 : vN k 1055 = (0)) (h2 : acc k = false) (h3 : ¬ vA k 8 = (0)) (h4 : ¬ vA k 1024 = (0)) : @InOk Tryz.prog C_method2_0 (TB m c f k) := by
  letI : Tab := (T_L_method2_7 b h0 h1 h3 h4)
  exact InOk.tab (VRows.same _ _) (InOk.of_run (K := ((H_single_k_false).or H_CF0a)) (n := 5000) mixed (HandOk.or (H_single_k_false_ok b h2 (VRows.same _ _)) H_CF0a_ok) (by kernel_rfl) (L_method2_7_run b h0 h1 h3 h4))
section
variable {m c f k : Nat} (b : Bd m c f k) (h0 : vA c 512 = (0)) (h1 : ¬ vN k 1055 = (0)) (h2 : vA k 8 = (0)) (h3 : ¬ vA k 1024 = (0))
abbrev T_L_method0_8 : Tab := (RC b (e9t 4 (0) ++ (e9f 10 (0) ++ (e9t 72 (0) ++ (e9f 5 (0) ++ ([]))))) (by letI := Tab.empty; exact (allApp (e9t_ok rfl h0) (allApp (e9f_ok rfl h1) (allApp (e9t_ok rfl h2) (allApp (e9f_ok rfl h3) ibNil)))))).tab
theorem L_method0_8_run : @inRun Tryz.prog (T_L_method0_8 b h0 h1 h2 h3) H_CF0a 5000 C_method0_1 = true := (by as_aux_lemma => kernel_rfl)
end
theorem L_method0_8 {m c f k : Nat} (b : Bd m c f k) (h0 : vA c 512 = (0)) (h1 : ¬ vN k 1055 = (0)) (h2 : vA k 8 = (0)) (h3 : ¬ vA k 1024 = (0)) : @InOk Tryz.prog C_method0_1 (TB m c f k) := by
  letI : Tab := (T_L_method0_8 b h0 h1 h2 h3)
  exact InOk.tab (VRows.same _ _) (InOk.of_run (K := H_CF0a) (n := 5000) mixed H_CF0a_ok (by kernel_rfl) (L_method0_8_run b h0 h1 h2 h3))
section
variable {m c f k : Nat} (b : Bd m c f k) (h0 : vA c 512 = (0)) (h1 : ¬ vN k 1055 = (0)) (h2 : vA k 8 = (0)) (h3 : ¬ vA k 1024 = (0))
abbrev T_L_method2_9 : Tab := (RC b (e9t 4 (0) ++ (e9f 10 (0) ++ (e9t 72 (0) ++ (e9f 5 (0) ++ ([]))))) (by letI := Tab.empty; exact (allApp (e9t_ok rfl h0) (allApp (e9f_ok rfl h1) (allApp (e9t_ok rfl h2) (allApp (e9f_ok rfl h3) ibNil)))))).tab
theorem L_method2_9_run : @inRun Tryz.prog (T_L_method2_9 b h0 h1 h2 h3) H_CF0a 5000 C_method2_1 = true := (by as_aux_lemma => kernel_rfl)
end
theorem L_method2_9 {m c f k : Nat} (b : Bd m c f k) (h0 : vA c 512 = (0)) (h1 : ¬ vN k 1055 = (0)) (h2 : vA k 8 = (0)) (h3 : ¬ vA k 1024 = (0)) : @InOk Tryz.prog C_method2_1 (TB m c f k) := by
  letI : Tab := (T_L_method2_9 b h0 h1 h2 h3)
  exact InOk.tab (VRows.same _ _) (InOk.of_run (K := H_CF0a) (n := 5000) mixed H_CF0a_ok (by kernel_rfl) (L_method2_9_run b h0 h1 h2 h3))
section
variable {m c f k : Nat} (b : Bd m c f k) (h0 : vA c 512 = (0)) (h1 : ¬ vN k 1055 = (0)) (h2 : ¬ vA k 8 = (0)) (h3 : ¬ vA k 1024 = (0))
abbrev T_L_method0_10 : Tab := (RC b (e9t 4 (0) ++ (e9f 10 (0) ++ (e9f 72 (0) ++ (e9f 5 (0) ++ ([]))))) (by letI := Tab.empty; exact (allApp (e9t_ok rfl h0) (allApp (e9f_ok rfl h1) (allApp (e9f_ok rfl h2) (allApp (e9f_ok rfl h3) ibNil)))))).tab
theorem L_method0_10_run : @inRun Tryz.prog (T_L_method0_10 b h0 h1 h2 h3) H_CF0a 5000 C_method0_0 = true := (by as_aux_lemma => kernel_rfl)
end
theorem L_method0_10 {m c f k : Nat} (b : Bd m c f k) (h0 : vA c 512 = (0)) (h1 : ¬ vN k 1055 = (0)) (h2 : ¬ vA k 8 = (0)) (h3 : ¬ vA k 1024 = (0)) : @InOk Tryz.prog C_method0_0 (TB m c f k) := by
  letI : Tab := (T_L_method0_10 b h0 h1 h2 h3)
  exact InOk.tab (VRows.same _ _) (InOk.of_run (K := H_CF0a) (n := 5000) mixed H_CF0a_ok (by kernel_rfl) (L_method0_10_run b h0 h1 h2 h3))
section
variable {m c f k : Nat} (b : Bd m c f k) (h0 : vA c 512 = (0)) (h1 : ¬ vN k 1055 = (0)) (h2 : ¬ vA k 8 = (0)) (h3 : ¬ vA k 1024 = (0))
abbrev T_L_method2_11 : Tab := (RC b (e9t 4 (0) ++ (e9f 10 (0) ++ (e9f 72 (0) ++ (e9f 5 (0) ++ ([]))))) (by letI := Tab.empty; exact (allApp (e9t_ok rfl h0) (allApp (e9f_ok rfl h1) (allApp (e9f_ok rfl h2) (allApp (e9f_ok rfl h3) ibNil)))))).tab
theorem L_method2_11_run : @inRun Tryz.prog (T_L_method2_11 b h0 h1 h2 h3) H_CF0a 5000 C_method2_0 = true := (by as_aux_lemma => kernel_rfl)
end
theorem L_method2_11 {m c f k : Nat} (b : Bd m c f k) (h0 : vA c 512 = (0)) (h1 : ¬ vN k 1055 = (0)) (h2 : ¬ vA k 8 = (0)) (h3 : ¬ vA k 1024 = (0)) : @InOk Tryz.prog C_method2_0 (TB m c f k) := by
  letI : Tab := (T_L_method2_11 b h0 h1 h2 h3)
  exact InOk.tab (VRows.same _ _) (InOk.of_run (K := H_CF0a) (n := 5000) mixed H_CF0a_ok (by kernel_rfl) (L_method2_11_run b h0 h1 h2 h3))
section
variable {m c f k : Nat} (b : Bd m c f k) (h0 : vA c 512 = (0)) (h1 : vN k 1055 = (0)) (h3 : ¬ vA k 1024 = (0)) (h4 : ¬ vA k 26 = (0)) (h5 : ¬ vA k 8 = (0))
abbrev T_L_method0_12 : Tab := (RC b (e9t 4 (0) ++ (e9t 10 (0) ++ (e9f 5 (0) ++ (e9f 73 (0) ++ (e9f 72 (0) ++ ([])))))) (by letI := Tab.empty; exact (allApp (e9t_ok rfl h0) (allApp (e9t_ok rfl h1) (allApp (e9f_ok rfl h3) (allApp (e9f_ok rfl h4) (allApp (e9f_ok rfl h5) ibNil))))))).tab
theorem L_method0_12_run : @inRun Tryz.prog (T_L_method0_12 b h0 h1 h3 h4 h5) ((H_single_k_true).or H_CF0a) 5000 C_method0_0 = true := (by as_aux_lemma => kernel_rfl)
end
theorem L_method0_12 {m c f k : Nat} (b : Bd m c f k) (h0 : vA c 512 = (0)) (h1 : vN k 1055 = (0)) (h2 : acc k = true) (h3 : ¬ vA k 1024 = (0)) (h4 : ¬ vA k 26 = (0)) (h5 : ¬ vA k 8 = (0)) : @InOk Tryz.prog C_method0_0 (TB m c f k) := by
  letI : Tab := (T_L_method0_12 b h0 h1 h3 h4 h5)
  exact InOk.tab (VRows.same _ _) (InOk.of_run (K := ((H_single_k_true).or H_CF0a)) (n := 5000) mixed (HandOk.or (H_single_k_true_ok b h2 (VRows.same _ _)) H_CF0a_ok) (by kernel_rfl) (L_method0_12_run b h0 h1 h3 h4 h5))
section
variable {m c f k : Nat} (b : Bd m c f k) (h0 : vA c 512 = (0)) (h1 : vN k 1055 = (0)) (h3 : ¬ vA k 1024 = (0)) (h4 : ¬ vA k 26 = (0)) (h5 : ¬ vA k 8 = (0))
abbrev T_L_method2_13 : Tab := (RC b (e9t 4 (0) ++ (e9t 10 (0) ++ (e9f 5 (0) ++ (e9f 73 (0) ++ (e9f 72 (0) ++ ([])))))) (by letI := Tab.empty; exact (allApp (e9t_ok rfl h0) (allApp (e9t_ok rfl h1) (allApp (e9f_ok rfl h3) (allApp (e9f_ok rfl h4) (allApp (e9f_ok rfl h5) ibNil))))))).tab
theorem L_method2_13_run : @inRun Tryz.prog (T_L_method2_13 b h0 h1 h3 h4 h5) ((H_single_k_true).or H_CF0a) 5000 C_method2_0 = true := (by as_aux_lemma => kernel_rfl)
end
theorem L_method2_13 {m c f k : Nat} (b : Bd m c f k) (h0 : vA c 512 = (0)) (h1 : vN k 1055 = (0)) (h2 : acc k = true) (h3 : ¬ vA k 1024 = (0)) (h4 : ¬ vA k 26 = (0)) (h5 : ¬ vA k 8 = (0)) : @InOk Tryz.prog C_method2_0 (TB m c f k) := by
  letI : Tab := (T_L_method2_13 b h0 h1 h3 h4 h5)
  exact InOk.tab (VRows.same _ _) (InOk.of_run (K := ((H_single_k_true).or H_CF0a)) (n := 5000) mixed (HandOk.or (H_single_k_true_ok b h2 (VRows.same _ _)) H_CF0a_ok) (by kernel_rfl) (L_method2_13_run b h0 h1 h3 h4 h5))
section
variable {m c f k : Nat} (b : Bd m c f k) (h0 : vA c 512 = (0)) (h1 : vN k 1055 = (0)) (h3 : ¬ vA k 1024 = (0)) (h4 : ¬ vA k 26 = (0)) (h5 : vA k 8 = (0))
abbrev T_L_method0_14 : Tab := (RC b (e9t 4 (0) ++ (e9t 10 (0) ++ (e9f 5 (0) ++ (e9f 73 (0) ++ (e9t 72 (0) ++ ([])))))) (by letI := Tab.empty; exact (allApp (e9t_ok rfl h0) (allApp (e9t_ok rfl h1) (allApp (e9f_ok rfl h3) (allApp (e9f_ok rfl h4) (allApp (e9t_ok rfl h5) ibNil))))))).tab
theorem L_method0_14_run : @inRun Tryz.prog (T_L_method0_14 b h0 h1 h3 h4 h5) ((H_single_k_true).or H_CF0a) 5000 C_method0_1 = true := (by as_aux_lemma => kernel_rfl)
end
theorem L_method0_14 {m c f k : Nat} (b : Bd m c f k) (h0 : vA c 512 = (0)) (h1 : vN k 1055 = (0)) (h2 : acc k = true) (h3 : ¬ vA k 1024 = (0)) (h4 : ¬ vA k 26 = (0)) (h5 : vA k 8 = (0)) : @InOk Tryz.prog C_method0_1 (TB m c f k) := by
  letI : Tab := (T_L_method0_14 b h0 h1 h3 h4 h5)
  exact InOk.tab (VRows.same _ _) (InOk.of_run (K := ((H_single_k_true).or H_CF0a)) (n := 5000) mixed (HandOk.or (H_single_k_true_ok b h2 (VRows.same _ _)) H_CF0a_ok) (by kernel_rfl) (L_method0_14_run b h0 h1 h3 h4 h5))
section
variable {m c f k : Nat} (b : Bd m c f k) (h0 : vA c 512 = (0)) (h1 : vN k 1055 = (0)) (h3 : ¬ vA k 1024 = (0)) (h4 : ¬ vA k 26 = (0)) (h5 : vA k 8 = (0))
abbrev T_L_method2_15 : Tab := (RC b (e9t 4 (0) ++ (e9t 10 (0) ++ (e9f 5 (0) ++ (e9f 73 (0) ++ (e9t 72 (0) ++ ([])))))) (by letI := Tab.empty; exact (allApp (e9t_ok rfl h0) (allApp (e9t_ok rfl h1) (allApp (e9f_ok rfl h3) (allApp (e9f_ok rfl h4) (allApp (e9t_ok rfl h5) ibNil))))))).tab
theorem L_method2_15_run : @inRun Tryz.prog (T_L_method2_15 b h0 h1 h3 h4 h5) ((H_single_k_true).or H_CF0a) 5000 C_method2_1 = true := (by as_aux_lemma => kernel_rfl)
end
theorem L_method2_15 {m c f k : Nat} (b : Bd m c f k) (h0 : vA c 512 = (0)) (h1 : vN k 1055 = (0)) (h2 : acc k = true) (h3 : ¬ vA k 1024 = (0)) (h4 : ¬ vA k 26 = (0)) (h5 : vA k 8 = (0)) : @InOk Tryz.prog C_method2_1 (TB m c f k) := by
  letI : Tab := (T_L_method2_15 b h0 h1 h3 h4 h5)
  exact InOk.tab (VRows.same _ _) (InOk.of_run (K := ((H_single_k_true).or H_CF0a)) (n := 5000) mixed (HandOk.or (H_single_k_true_ok b h2 (VRows.same _ _)) H_CF0a_ok) (by kernel_rfl) (L_method2_15_run b h0 h1 h3 h4 h5))
section
variable {m c f k : Nat} (b : Bd m c f k) (h0 : vA c 512 = (0)) (h1 : vN k 1055 = (0)) (h3 : ¬ vA k 1024 = (0)) (h4 : vA k 26 = (0)) (h5 : vA k 8 = (0))
abbrev T_L_method0_16 : Tab := (RC b (e9t 4 (0) ++ (e9t 10 (0) ++ (e9f 5 (0) ++ (e9t 73 (0) ++ (e9t 72 (0) ++ ([])))))) (by letI := Tab.empty; exact (allApp (e9t_ok rfl h0) (allApp (e9t_ok rfl h1) (allApp (e9f_ok rfl h3) (allApp (e9t_ok rfl h4) (allApp (e9t_ok rfl h5) ibNil))))))).tab
theorem L_method0_16_run : @inRun Tryz.prog (T_L_method0_16 b h0 h1 h3 h4 h5) ((H_single_k_true).or H_CF0a) 5000 C_method0_2 = true := (by as_aux_lemma => kernel_rfl)
end
theorem L_method0_16 {m c f k : Nat} (b : Bd m c f k) (h0 : vA c 512 = (0)) (h1 : vN k 1055 = (0)) (h2 : acc k = true) (h3 : ¬ vA k 1024 = (0)) (h4 : vA k 26 = (0)) (h5 : vA k 8 = (0)) : @InOk Tryz.prog C_method0_2 (TB m c f k) := by
  letI : Tab := (T_L_method0_16 b h0 h1 h3 h4 h5)
  exact InOk.tab (VRows.same _ _) (InOk.of_run (K := ((H_single_k_true).or H_CF0a)) (n := 5000) mixed (HandOk.or (H_single_k_true_ok b h2 (VRows.same _ _)) H_CF0a_ok) (by kernel_rfl) (L_method0_16_run b h0 h1 h3 h4 h5))
section
variable {m c f k : Nat} (b : Bd m c f k) (h0 : vA c 512 = (0)) (h1 : vN k 1055 = (0)) (h3 : ¬ vA k 1024 = (0)) (h4 : vA k 26 = (0)) (h5 : vA k 8 = (0))
abbrev T_L_method2_17 : Tab := (RC b (e9t 4 (0) ++ (e9t 10 (0) ++ (e9f 5 (0) ++ (e9t 73 (0) ++ (e9t 72 (0) ++ ([])))))) (by letI := Tab.empty; exact (allApp (e9t_ok rfl h0) (allApp (e9t_ok rfl h1) (allApp (e9f_ok rfl h3) (allApp (e9t_ok rfl h4) (allApp (e9t_ok rfl h5) ibNil))))))).tab
theorem L_method2_17_run : @inRun Tryz.prog (T_L_method2_17 b h0 h1 h3 h4 h5) ((H_single_k_true).or H_CF0a) 5000 C_method2_2 = true := (by as_aux_lemma => kernel_rfl)
end
theorem L_method2_17 {m c f k : Nat} (b : Bd m c f k) (h0 : vA c 512 = (0)) (h1 : vN k 1055 = (0)) (h2 : acc k = true) (h3 : ¬ vA k 1024 = (0)) (h4 : vA k 26 = (0)) (h5 : vA k 8 = (0)) : @InOk Tryz.prog C_method2_2 (TB m c f k) := by
  letI : Tab := (T_L_method2_17 b h0 h1 h3 h4 h5)
  exact InOk.tab (VRows.same _ _) (InOk.of_run (K := ((H_single_k_true).or H_CF0a)) (n := 5000) mixed (HandOk.or (H_single_k_true_ok b h2 (VRows.same _ _)) H_CF0a_ok) (by kernel_rfl) (L_method2_17_run b h0 h1 h3 h4 h5))
section
variable {m c f k : Nat} (b : Bd m c f k) (h0 : vA c 512 = (0)) (h1 : vN k 1055 = (0)) (h3 : ¬ vA k 8 = (0)) (h4 : ¬ vA k 1024 = (0))
abbrev T_L_method0_18 : Tab := (RC b (e9t 4 (0) ++ (e9t 10 (0) ++ (e9f 72 (0) ++ (e9f 5 (0) ++ ([]))))) (by letI := Tab.empty; exact (allApp (e9t_ok rfl h0) (allApp (e9t_ok rfl h1) (allApp (e9f_ok rfl h3) (allApp (e9f_ok rfl h4) ibNil)))))).tab
theorem L_method0_18_run : @inRun Tryz.prog (T_L_method0_18 b h0 h1 h3 h4) ((H_single_k_false).or H_CF0a) 5000 C_method0_0 = true := (by as_aux_lemma => kernel_rfl)
end
theorem L_method0_18 {m c f k : Nat} (b : Bd m c f k) (h0 : vA c 512 = (0)) (h1 : vN k 1055 = (0)) (h2 : acc k = false) (h3 : ¬ vA k 8 = (0)) (h4 : ¬ vA k 1024 = (0)) : @InOk Tryz.prog C_method0_0 (TB m c f k) := by
  letI : Tab := (T_L_method0_18 b h0 h1 h3 h4)
  exact InOk.tab (VRows.same _ _) (InOk.of_run (K := ((H_single_k_false).or H_CF0a)) (n := 5000) mixed (HandOk.or (H_single_k_false_ok b h2 (VRows.same _ _)) H_CF0a_ok) (by kernel_rfl) (L_method0_18_run b h0 h1 h3 h4))
section
variable {m c f k : Nat} (b : Bd m c f k) (h0 : vA c 512 = (0)) (h1 : vN k 1055 = (0)) (h3 : ¬ vA k 8 = (0)) (h4 : ¬ vA k 1024 = (0))
abbrev T_L_method2_19 : Tab := (RC b (e9t 4 (0) ++ (e9t 10 (0) ++ (e9f 72 (0) ++ (e9f 5 (0) ++ ([]))))) (by letI := Tab.empty; exact (allApp (e9t_ok rfl h0) (allApp (e9t_ok rfl h1) (allApp (e9f_ok rfl h3) (allApp (e9f_ok rfl h4) ibNil)))))).tab
theorem L_method2_19_run : @inRun Tryz.prog (T_L_method2_19 b h0 h1 h3 h4) ((H_single_k_false).or H_CF0a) 5000 C_method2_0 = true := (by as_aux_lemma => kernel_rfl)
end
theorem L_method2_19 {m c f k : Nat} (b : Bd m c f k) (h0 : vA c 512 = (0)) (h1 : vN k 1055 = (0)) (h2 : acc k = false) (h3 : ¬ vA k 8 = (0)) (h4 : ¬ vA k 1024 = (0)) : @InOk Tryz.prog C_method2_0 (TB m c f k) := by
  letI : Tab := (T_L_method2_19 b h0 h1 h3 h4)
  exact InOk.tab (VRows.same _ _) (InOk.of_run (K := ((H_single_k_false).or H_CF0a)) (n := 5000) mixed (HandOk.or (H_single_k_false_ok b h2 (VRows.same _ _)) H_CF0a_ok) (by kernel_rfl) (L_method2_19_run b h0 h1 h3 h4))
section
variable {m c f k : Nat} (b : Bd m c f k) (h0 : ¬ vA c 512 = (0)) (h1 : vN k 1055 = (0)) (h3 : ¬ vA k 1024 = (0)) (h4 : ¬ vA k 26 = (0)) (h5 : ¬ vA k 8 = (0))
abbrev T_L_method0_20 : Tab := (RC b (e9f 4 (0) ++ (e9t 10 (0) ++ (e9f 5 (0) ++ (e9f 73 (0) ++ (e9f 72 (0) ++ ([])))))) (by letI := Tab.empty; exact (allApp (e9f_ok rfl h0) (allApp (e9t_ok rfl h1) (allApp (e9f_ok rfl h3) (allApp (e9f_ok rfl h4) (allApp (e9f_ok rfl h5) ibNil))))))).tab
theorem L_method0_20_run : @inRun Tryz.prog (T_L_method0_20 b h0 h1 h3 h4 h5) ((H_single_k_true).or H_CF0a) 5000 C_method0_0 = true := (by as_aux_lemma => kernel_rfl)
end
theorem L_method0_20 {m c f k : Nat} (b : Bd m c f k) (h0 : ¬ vA c 512 = (0)) (h1 : vN k 1055 = (0)) (h2 : acc k = true) (h3 : ¬ vA k 1024 = (0)) (h4 : ¬ vA k 26 = (0)) (h5 : ¬ vA k 8 = (0)) : @InOk Tryz.prog C_method0_0 (TB m c f k) := by
  letI : Tab := (T_L_method0_20 b h0 h1 h3 h4 h5)
  exact InOk.tab (VRows.same _ _) (InOk.of_run (K := ((H_single_k_true).or H_CF0a)) (n := 5000) mixed (HandOk.or (H_single_k_true_ok b h2 (VRows.same _ _)) H_CF0a_ok) (by kernel_rfl) (L_method0_20_run b h0 h1 h3 h4 h5))
section
variable {m c f k : Nat} (b : Bd m c f k) (h0 : ¬ vA c 512 = (0)) (h1 : vN k 1055 = (0)) (h3 : ¬ vA k 1024 = (0)) (h4 : ¬ vA k 26 = (0)) (h5 : ¬ vA k 8 = (0))
abbrev T_L_method2_21 : Tab := (RC b (e9f 4 (0) ++ (e9t 10 (0) ++ (e9f 5 (0) ++ (e9f 73 (0) ++ (e9f 72 (0) ++ ([])))))) (by letI := Tab.empty; exact (allApp (e9f_ok rfl h0) (allApp (e9t_ok rfl h1) (allApp (e9f_ok rfl h3) (allApp (e9f_ok rfl h4) (allApp (e9f_ok rfl h5) ibNil))))))).tab
theorem L_method2_21_run : @inRun Tryz.prog (T_L_method2_21 b h0 h1 h3 h4 h5) ((H_single_k_true).or H_CF0a) 5000 C_method2_0 = true := (by as_aux_lemma => kernel_rfl)
end
theorem L_method2_21 {m c f k : Nat} (b : Bd m c f k) (h0 : ¬ vA c 512 = (0)) (h1 : vN k 1055 = (0)) (h2 : acc k = true) (h3 : ¬ vA k 1024 = (0)) (h4 : ¬ vA k 26 = (0)) (h5 : ¬ vA k 8 = (0)) : @InOk Tryz.prog C_method2_0 (TB m c f k) := by
  letI : Tab := (T_L_method2_21 b h0 h1 h3 h4 h5)
  exact InOk.tab (VRows.same _ _) (InOk.of_run (K := ((H_single_k_true).or H_CF0a)) (n := 5000) mixed (HandOk.or (H_single_k_true_ok b h2 (VRows.same _ _)) H_CF0a_ok) (by kernel_rfl) (L_method2_21_run b h0 h1 h3 h4 h5))
end Go.Proofs.YtlfinnicdpiaaaaGreatDoor.cf
