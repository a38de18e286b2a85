/-
  Runs of method under the flags by name.
-/
import Derived.Test.YtlfinnicdpiaaaaGreatDoorXN3
import Derived.Test.YtlfinnicdpiaaaaGreatDoorCFB
import Derived.Test.YtlfinnicdpiaaaaGreatDoorCFC
import Derived.KernelRfl
set_option linter.unusedVariables false
set_option linter.unusedSimpArgs false
set_option maxRecDepth 1000000
set_option maxHeartbeats 0
namespace Go.Proofs.YtlfinnicdpiaaaaGreatDoor.cf
open Go.X Go.RowKit
section
variable {m c f k : Nat} (b : Bd m c f k) (h0 : ¬ vA c 512 = (0)) (h1 : vN k 1055 = (0)) (h3 : vA k 1024 = (0)) (h4 : ¬ (m : Int) < (52)) (h5 : vA k 20 = (0)) (h6 : vA k 3 = (0)) (h7 : vA k 8 = (0))
abbrev T_L_method1_44 : Tab := (RC b (e9f 4 (0) ++ (e9t 10 (0) ++ (e9t 5 (0) ++ (e11f 0 (52) ++ (e9t 74 (0) ++ (e9t 75 (0) ++ (e9t 72 (0) ++ ([])))))))) (by letI := Tab.empty; exact (allApp (e9f_ok rfl h0) (allApp (e9t_ok rfl h1) (allApp (e9t_ok rfl h3) (allApp (e11f_ok rfl h4) (allApp (e9t_ok rfl h5) (allApp (e9t_ok rfl h6) (allApp (e9t_ok rfl h7) ibNil))))))))).tab
theorem L_method1_44_run : @inRun Tryz.prog (T_L_method1_44 b h0 h1 h3 h4 h5 h6 h7) ((H_single_k_true).or H_CF0a) 5000 C_method1_1 = true := (by as_aux_lemma => kernel_rfl)
end
theorem L_method1_44 {m c f k : Nat} (b : Bd m c f k) (h0 : ¬ vA c 512 = (0)) (h1 : vN k 1055 = (0)) (h2 : acc k = true) (h3 : vA k 1024 = (0)) (h4 : ¬ (m : Int) < (52)) (h5 : vA k 20 = (0)) (h6 : vA k 3 = (0)) (h7 : vA k 8 = (0)) : @InOk Tryz.prog C_method1_1 (TB m c f k) := by
  letI : Tab := (T_L_method1_44 b h0 h1 h3 h4 h5 h6 h7)
  exact InOk.tab (VRows.same _ _) (InOk.of_run (K := ((H_single_k_true).or H_CF0a)) (n := 5000) mixed (HandOk.or (H_single_k_true_ok b h2 (VRows.same _ _)) H_CF0a_ok) (by kernel_rfl) (L_method1_44_run b h0 h1 h3 h4 h5 h6 h7))
section
variable {m c f k : Nat} (b : Bd m c f k) (h0 : ¬ vA c 512 = (0)) (h1 : vN k 1055 = (0)) (h3 : vA k 1024 = (0)) (h4 : ¬ (m : Int) < (52)) (h5 : vA k 20 = (0)) (h6 : vA k 3 = (0)) (h7 : vA k 8 = (0))
abbrev T_L_method3_45 : Tab := (RC b (e9f 4 (0) ++ (e9t 10 (0) ++ (e9t 5 (0) ++ (e11f 0 (52) ++ (e9t 74 (0) ++ (e9t 75 (0) ++ (e9t 72 (0) ++ ([])))))))) (by letI := Tab.empty; exact (allApp (e9f_ok rfl h0) (allApp (e9t_ok rfl h1) (allApp (e9t_ok rfl h3) (allApp (e11f_ok rfl h4) (allApp (e9t_ok rfl h5) (allApp (e9t_ok rfl h6) (allApp (e9t_ok rfl h7) ibNil))))))))).tab
theorem L_method3_45_run : @inRun Tryz.prog (T_L_method3_45 b h0 h1 h3 h4 h5 h6 h7) ((H_single_k_true).or H_CF0a) 5000 C_method3_1 = true := (by as_aux_lemma => kernel_rfl)
end
theorem L_method3_45 {m c f k : Nat} (b : Bd m c f k) (h0 : ¬ vA c 512 = (0)) (h1 : vN k 1055 = (0)) (h2 : acc k = true) (h3 : vA k 1024 = (0)) (h4 : ¬ (m : Int) < (52)) (h5 : vA k 20 = (0)) (h6 : vA k 3 = (0)) (h7 : vA k 8 = (0)) : @InOk Tryz.prog C_method3_1 (TB m c f k) := by
  letI : Tab := (T_L_method3_45 b h0 h1 h3 h4 h5 h6 h7)
  exact InOk.tab (VRows.same _ _) (InOk.of_run (K := ((H_single_k_true).or H_CF0a)) (n := 5000) mixed (HandOk.or (H_single_k_true_ok b h2 (VRows.same _ _)) H_CF0a_ok) (by kernel_rfl) (L_method3_45_run b h0 h1 h3 h4 h5 h6 h7))
section
variable {m c f k : Nat} (b : Bd m c f k) (h0 : vA c 512 = (0)) (h1 : ¬ vN k 1055 = (0)) (h2 : ¬ vA k 8 = (0)) (h3 : vA k 1024 = (0))
abbrev T_L_method1_46 : Tab := (RC b (e9t 4 (0) ++ (e9f 10 (0) ++ (e9f 72 (0) ++ (e9t 5 (0) ++ ([]))))) (by letI := Tab.empty; exact (allApp (e9t_ok rfl h0) (allApp (e9f_ok rfl h1) (allApp (e9f_ok rfl h2) (allApp (e9t_ok rfl h3) ibNil)))))).tab
theorem L_method1_46_run : @inRun Tryz.prog (T_L_method1_46 b h0 h1 h2 h3) H_CF0a 5000 C_method1_0 = true := (by as_aux_lemma => kernel_rfl)
end
theorem L_method1_46 {m c f k : Nat} (b : Bd m c f k) (h0 : vA c 512 = (0)) (h1 : ¬ vN k 1055 = (0)) (h2 : ¬ vA k 8 = (0)) (h3 : vA k 1024 = (0)) : @InOk Tryz.prog C_method1_0 (TB m c f k) := by
  letI : Tab := (T_L_method1_46 b h0 h1 h2 h3)
  exact InOk.tab (VRows.same _ _) (InOk.of_run (K := H_CF0a) (n := 5000) mixed H_CF0a_ok (by kernel_rfl) (L_method1_46_run b h0 h1 h2 h3))
section
variable {m c f k : Nat} (b : Bd m c f k) (h0 : vA c 512 = (0)) (h1 : ¬ vN k 1055 = (0)) (h2 : ¬ vA k 8 = (0)) (h3 : vA k 1024 = (0))
abbrev T_L_method3_47 : Tab := (RC b (e9t 4 (0) ++ (e9f 10 (0) ++ (e9f 72 (0) ++ (e9t 5 (0) ++ ([]))))) (by letI := Tab.empty; exact (allApp (e9t_ok rfl h0) (allApp (e9f_ok rfl h1) (allApp (e9f_ok rfl h2) (allApp (e9t_ok rfl h3) ibNil)))))).tab
theorem L_method3_47_run : @inRun Tryz.prog (T_L_method3_47 b h0 h1 h2 h3) H_CF0a 5000 C_method3_0 = true := (by as_aux_lemma => kernel_rfl)
end
theorem L_method3_47 {m c f k : Nat} (b : Bd m c f k) (h0 : vA c 512 = (0)) (h1 : ¬ vN k 1055 = (0)) (h2 : ¬ vA k 8 = (0)) (h3 : vA k 1024 = (0)) : @InOk Tryz.prog C_method3_0 (TB m c f k) := by
  letI : Tab := (T_L_method3_47 b h0 h1 h2 h3)
  exact InOk.tab (VRows.same _ _) (InOk.of_run (K := H_CF0a) (n := 5000) mixed H_CF0a_ok (by kernel_rfl) (L_method3_47_run b h0 h1 h2 h3))
section
variable {m c f k : Nat} (b : Bd m c f k) (h0 : vA c 512 = (0)) (h1 : ¬ vN k 1055 = (0)) (h2 : vA k 8 = (0)) (h3 : vA k 1024 = (0))
abbrev T_L_method1_48 : Tab := (RC b (e9t 4 (0) ++ (e9f 10 (0) ++ (e9t 72 (0) ++ (e9t 5 (0) ++ ([]))))) (by letI := Tab.empty; exact (allApp (e9t_ok rfl h0) (allApp (e9f_ok rfl h1) (allApp (e9t_ok rfl h2) (allApp (e9t_ok rfl h3) ibNil)))))).tab
theorem L_method1_48_run : @inRun Tryz.prog (T_L_method1_48 b h0 h1 h2 h3) H_CF0a 5000 C_method1_1 = true := (by as_aux_lemma => kernel_rfl)
end
theorem L_method1_48 {m c f k : Nat} (b : Bd m c f k) (h0 : vA c 512 = (0)) (h1 : ¬ vN k 1055 = (0)) (h2 : vA k 8 = (0)) (h3 : vA k 1024 = (0)) : @InOk Tryz.prog C_method1_1 (TB m c f k) := by
  letI : Tab := (T_L_method1_48 b h0 h1 h2 h3)
  exact InOk.tab (VRows.same _ _) (InOk.of_run (K := H_CF0a) (n := 5000) mixed H_CF0a_ok (by kernel_rfl) (L_method1_48_run b h0 h1 h2 h3))
section
variable {m c f k : Nat} (b : Bd m c f k) (h0 : vA c 512 = (0)) (h1 : ¬ vN k 1055 = (0)) (h2 : vA k 8 = (0)) (h3 : vA k 1024 = (0))
abbrev T_L_method3_49 : Tab := (RC b (e9t 4 (0) ++ (e9f 10 (0) ++ (e9t 72 (0) ++ (e9t 5 (0) ++ ([]))))) (by letI := Tab.empty; exact (allApp (e9t_ok rfl h0) (allApp (e9f_ok rfl h1) (allApp (e9t_ok rfl h2) (allApp (e9t_ok rfl h3) ibNil)))))).tab
theorem L_method3_49_run : @inRun Tryz.prog (T_L_method3_49 b h0 h1 h2 h3) H_CF0a 5000 C_method3_1 = true := (by as_aux_lemma => kernel_rfl)
end
theorem L_method3_49 {m c f k : Nat} (b : Bd m c f k) (h0 : vA c 512 = (0)) (h1 : ¬ vN k 1055 = (0)) (h2 : vA k 8 = (0)) (h3 : vA k 1024 = (0)) : @InOk Tryz.prog C_method3_1 (TB m c f k) := by
  letI : Tab := (T_L_method3_49 b h0 h1 h2 h3)
  exact InOk.tab (VRows.same _ _) (InOk.of_run (K := H_CF0a) (n := 5000) mixed H_CF0a_ok (by kernel_rfl) (L_method3_49_run b h0 h1 h2 h3))
section
variable {m c f k : Nat} (b : Bd m c f k) (h0 : vA c 512 = (0)) (h1 : vN k 1055 = (0)) (h3 : ¬ vA k 8 = (0)) (h4 : vA k 1024 = (0))
abbrev T_L_method1_50 : Tab := (RC b (e9t 4 (0) ++ (e9t 10 (0) ++ (e9f 72 (0) ++ (e9t 5 (0) ++ ([]))))) (by letI := Tab.empty; exact (allApp (e9t_ok rfl h0) (allApp (e9t_ok rfl h1) (allApp (e9f_ok rfl h3) (allApp (e9t_ok rfl h4) ibNil)))))).tab
theorem L_method1_50_run : @inRun Tryz.prog (T_L_method1_50 b h0 h1 h3 h4) ((H_single_k_false).or H_CF0a) 5000 C_method1_0 = true := (by as_aux_lemma => kernel_rfl)
end
theorem L_method1_50 {m c f k : Nat} (b : Bd m c f k) (h0 : vA c 512 = (0)) (h1 : vN k 1055 = (0)) (h2 : acc k = false) (h3 : ¬ vA k 8 = (0)) (h4 : vA k 1024 = (0)) : @InOk Tryz.prog C_method1_0 (TB m c f k) := by
  letI : Tab := (T_L_method1_50 b h0 h1 h3 h4)
  exact InOk.tab (VRows.same _ _) (InOk.of_run (K := ((H_single_k_false).or H_CF0a)) (n := 5000) mixed (HandOk.or (H_single_k_false_ok b h2 (VRows.same _ _)) H_CF0a_ok) (by kernel_rfl) (L_method1_50_run b h0 h1 h3 h4))
section
variable {m c f k : Nat} (b : Bd m c f k) (h0 : vA c 512 = (0)) (h1 : vN k 1055 = (0)) (h3 : ¬ vA k 8 = (0)) (h4 : vA k 1024 = (0))
abbrev T_L_method3_51 : Tab := (RC b (e9t 4 (0) ++ (e9t 10 (0) ++ (e9f 72 (0) ++ (e9t 5 (0) ++ ([]))))) (by letI := Tab.empty; exact (allApp (e9t_ok rfl h0) (allApp (e9t_ok rfl h1) (allApp (e9f_ok rfl h3) (allApp (e9t_ok rfl h4) ibNil)))))).tab
theorem L_method3_51_run : @inRun Tryz.prog (T_L_method3_51 b h0 h1 h3 h4) ((H_single_k_false).or H_CF0a) 5000 C_method3_0 = true := (by as_aux_lemma => kernel_rfl)
end
theorem L_method3_51 {m c f k : Nat} (b : Bd m c f k) (h0 : vA c 512 = (0)) (h1 : vN k 1055 = (0)) (h2 : acc k = false) (h3 : ¬ vA k 8 = (0)) (h4 : vA k 1024 = (0)) : @InOk Tryz.prog C_method3_0 (TB m c f k) := by
  letI : Tab := (T_L_method3_51 b h0 h1 h3 h4)
  exact InOk.tab (VRows.same _ _) (InOk.of_run (K := ((H_single_k_false).or H_CF0a)) (n := 5000) mixed (HandOk.or (H_single_k_false_ok b h2 (VRows.same _ _)) H_CF0a_ok) (by kernel_rfl) (L_method3_51_run b h0 h1 h3 h4))
section
variable {m c f k : Nat} (b : Bd m c f k) (h0 : ¬ vA c 512 = (0)) (h1 : vN k 1055 = (0)) (h3 : vA k 1024 = (0)) (h4 : (m : Int) < (52)) (h5 : ¬ (k : Int) = (1025)) (h6 : vA k 8 = (0))
abbrev T_L_method1_52 : Tab := (RC b (e9f 4 (0) ++ (e9t 10 (0) ++ (e9t 5 (0) ++ (e11t 0 (52) ++ (e9f 3 (1025) ++ (e9t 72 (0) ++ ([]))))))) (by letI := Tab.empty; exact (allApp (e9f_ok rfl h0) (allApp (e9t_ok rfl h1) (allApp (e9t_ok rfl h3) (allApp (e11t_ok rfl h4) (allApp (e9f_ok rfl h5) (allApp (e9t_ok rfl h6) ibNil)))))))).tab
theorem L_method1_52_run : @inRun Tryz.prog (T_L_method1_52 b h0 h1 h3 h4 h5 h6) ((H_single_k_true).or H_CF0a) 5000 C_method1_1 = true := (by as_aux_lemma => kernel_rfl)
end
theorem L_method1_52 {m c f k : Nat} (b : Bd m c f k) (h0 : ¬ vA c 512 = (0)) (h1 : vN k 1055 = (0)) (h2 : acc k = true) (h3 : vA k 1024 = (0)) (h4 : (m : Int) < (52)) (h5 : ¬ (k : Int) = (1025)) (h6 : vA k 8 = (0)) : @InOk Tryz.prog C_method1_1 (TB m c f k) := by
  letI : Tab := (T_L_method1_52 b h0 h1 h3 h4 h5 h6)
  exact InOk.tab (VRows.same _ _) (InOk.of_run (K := ((H_single_k_true).or H_CF0a)) (n := 5000) mixed (HandOk.or (H_single_k_true_ok b h2 (VRows.same _ _)) H_CF0a_ok) (by kernel_rfl) (L_method1_52_run b h0 h1 h3 h4 h5 h6))
section
variable {m c f k : Nat} (b : Bd m c f k) (h0 : ¬ vA c 512 = (0)) (h1 : vN k 1055 = (0)) (h3 : vA k 1024 = (0)) (h4 : (m : Int) < (52)) (h5 : ¬ (k : Int) = (1025)) (h6 : vA k 8 = (0))
abbrev T_L_method3_53 : Tab := (RC b (e9f 4 (0) ++ (e9t 10 (0) ++ (e9t 5 (0) ++ (e11t 0 (52) ++ (e9f 3 (1025) ++ (e9t 72 (0) ++ ([]))))))) (by letI := Tab.empty; exact (allApp (e9f_ok rfl h0) (allApp (e9t_ok rfl h1) (allApp (e9t_ok rfl h3) (allApp (e11t_ok rfl h4) (allApp (e9f_ok rfl h5) (allApp (e9t_ok rfl h6) ibNil)))))))).tab
theorem L_method3_53_run : @inRun Tryz.prog (T_L_method3_53 b h0 h1 h3 h4 h5 h6) ((H_single_k_true).or H_CF0a) 5000 C_method3_1 = true := (by as_aux_lemma => kernel_rfl)
end
theorem L_method3_53 {m c f k : Nat} (b : Bd m c f k) (h0 : ¬ vA c 512 = (0)) (h1 : vN k 1055 = (0)) (h2 : acc k = true) (h3 : vA k 1024 = (0)) (h4 : (m : Int) < (52)) (h5 : ¬ (k : Int) = (1025)) (h6 : vA k 8 = (0)) : @InOk Tryz.prog C_method3_1 (TB m c f k) := by
  letI : Tab := (T_L_method3_53 b h0 h1 h3 h4 h5 h6)
  exact InOk.tab (VRows.same _ _) (InOk.of_run (K := ((H_single_k_true).or H_CF0a)) (n := 5000) mixed (HandOk.or (H_single_k_true_ok b h2 (VRows.same _ _)) H_CF0a_ok) (by kernel_rfl) (L_method3_53_run b h0 h1 h3 h4 h5 h6))
section
variable {m c f k : Nat} (b : Bd m c f k) (h0 : ¬ vA c 512 = (0)) (h1 : vN k 1055 = (0)) (h3 : vA k 1024 = (0)) (h4 : (m : Int) < (52)) (h5 : ¬ (k : Int) = (1025)) (h6 : ¬ vA k 8 = (0))
abbrev T_L_method1_54 : Tab := (RC b (e9f 4 (0) ++ (e9t 10 (0) ++ (e9t 5 (0) ++ (e11t 0 (52) ++ (e9f 3 (1025) ++ (e9f 72 (0) ++ ([]))))))) (by letI := Tab.empty; exact (allApp (e9f_ok rfl h0) (allApp (e9t_ok rfl h1) (allApp (e9t_ok rfl h3) (allApp (e11t_ok rfl h4) (allApp (e9f_ok rfl h5) (allApp (e9f_ok rfl h6) ibNil)))))))).tab
theorem L_method1_54_run : @inRun Tryz.prog (T_L_method1_54 b h0 h1 h3 h4 h5 h6) ((H_single_k_true).or H_CF0a) 5000 C_method1_0 = true := (by as_aux_lemma => kernel_rfl)
end
theorem L_method1_54 {m c f k : Nat} (b : Bd m c f k) (h0 : ¬ vA c 512 = (0)) (h1 : vN k 1055 = (0)) (h2 : acc k = true) (h3 : vA k 1024 = (0)) (h4 : (m : Int) < (52)) (h5 : ¬ (k : Int) = (1025)) (h6 : ¬ vA k 8 = (0)) : @InOk Tryz.prog C_method1_0 (TB m c f k) := by
  letI : Tab := (T_L_method1_54 b h0 h1 h3 h4 h5 h6)
  exact InOk.tab (VRows.same _ _) (InOk.of_run (K := ((H_single_k_true).or H_CF0a)) (n := 5000) mixed (HandOk.or (H_single_k_true_ok b h2 (VRows.same _ _)) H_CF0a_ok) (by kernel_rfl) (L_method1_54_run b h0 h1 h3 h4 h5 h6))
section
variable {m c f k : Nat} (b : Bd m c f k) (h0 : ¬ vA c 512 = (0)) (h1 : vN k 1055 = (0)) (h3 : vA k 1024 = (0)) (h4 : (m : Int) < (52)) (h5 : ¬ (k : Int) = (1025)) (h6 : ¬ vA k 8 = (0))
abbrev T_L_method3_55 : Tab := (RC b (e9f 4 (0) ++ (e9t 10 (0) ++ (e9t 5 (0) ++ (e11t 0 (52) ++ (e9f 3 (1025) ++ (e9f 72 (0) ++ ([]))))))) (by letI := Tab.empty; exact (allApp (e9f_ok rfl h0) (allApp (e9t_ok rfl h1) (allApp (e9t_ok rfl h3) (allApp (e11t_ok rfl h4) (allApp (e9f_ok rfl h5) (allApp (e9f_ok rfl h6) ibNil)))))))).tab
theorem L_method3_55_run : @inRun Tryz.prog (T_L_method3_55 b h0 h1 h3 h4 h5 h6) ((H_single_k_true).or H_CF0a) 5000 C_method3_0 = true := (by as_aux_lemma => kernel_rfl)
end
theorem L_method3_55 {m c f k : Nat} (b : Bd m c f k) (h0 : ¬ vA c 512 = (0)) (h1 : vN k 1055 = (0)) (h2 : acc k = true) (h3 : vA k 1024 = (0)) (h4 : (m : Int) < (52)) (h5 : ¬ (k : Int) = (1025)) (h6 : ¬ vA k 8 = (0)) : @InOk Tryz.prog C_method3_0 (TB m c f k) := by
  letI : Tab := (T_L_method3_55 b h0 h1 h3 h4 h5 h6)
  exact InOk.tab (VRows.same _ _) (InOk.of_run (K := ((H_single_k_true).or H_CF0a)) (n := 5000) mixed (HandOk.or (H_single_k_true_ok b h2 (VRows.same _ _)) H_CF0a_ok) (by kernel_rfl) (L_method3_55_run b h0 h1 h3 h4 h5 h6))
section
variable {m c f k : Nat} (b : Bd m c f k) (h0 : ¬ vA c 512 = (0)) (h1 : vN k 1055 = (0)) (h3 : vA k 1024 = (0)) (h4 : ¬ (m : Int) < (52)) (h5 : ¬ vA k 20 = (0)) (h6 : ¬ vA k 8 = (0))
abbrev T_L_method1_56 : Tab := (RC b (e9f 4 (0) ++ (e9t 10 (0) ++ (e9t 5 (0) ++ (e11f 0 (52) ++ (e9f 74 (0) ++ (e9f 72 (0) ++ ([]))))))) (by letI := Tab.empty; exact (allApp (e9f_ok rfl h0) (allApp (e9t_ok rfl h1) (allApp (e9t_ok rfl h3) (allApp (e11f_ok rfl h4) (allApp (e9f_ok rfl h5) (allApp (e9f_ok rfl h6) ibNil)))))))).tab
theorem L_method1_56_run : @inRun Tryz.prog (T_L_method1_56 b h0 h1 h3 h4 h5 h6) ((H_single_k_true).or H_CF0a) 5000 C_method1_0 = true := (by as_aux_lemma => kernel_rfl)
end
theorem L_method1_56 {m c f k : Nat} (b : Bd m c f k) (h0 : ¬ vA c 512 = (0)) (h1 : vN k 1055 = (0)) (h2 : acc k = true) (h3 : vA k 1024 = (0)) (h4 : ¬ (m : Int) < (52)) (h5 : ¬ vA k 20 = (0)) (h6 : ¬ vA k 8 = (0)) : @InOk Tryz.prog C_method1_0 (TB m c f k) := by
  letI : Tab := (T_L_method1_56 b h0 h1 h3 h4 h5 h6)
  exact InOk.tab (VRows.same _ _) (InOk.of_run (K := ((H_single_k_true).or H_CF0a)) (n := 5000) mixed (HandOk.or (H_single_k_true_ok b h2 (VRows.same _ _)) H_CF0a_ok) (by kernel_rfl) (L_method1_56_run b h0 h1 h3 h4 h5 h6))
section
variable {m c f k : Nat} (b : Bd m c f k) (h0 : ¬ vA c 512 = (0)) (h1 : vN k 1055 = (0)) (h3 : vA k 1024 = (0)) (h4 : ¬ (m : Int) < (52)) (h5 : ¬ vA k 20 = (0)) (h6 : ¬ vA k 8 = (0))
abbrev T_L_method3_57 : Tab := (RC b (e9f 4 (0) ++ (e9t 10 (0) ++ (e9t 5 (0) ++ (e11f 0 (52) ++ (e9f 74 (0) ++ (e9f 72 (0) ++ ([]))))))) (by letI := Tab.empty; exact (allApp (e9f_ok rfl h0) (allApp (e9t_ok rfl h1) (allApp (e9t_ok rfl h3) (allApp (e11f_ok rfl h4) (allApp (e9f_ok rfl h5) (allApp (e9f_ok rfl h6) ibNil)))))))).tab
theorem L_method3_57_run : @inRun Tryz.prog (T_L_method3_57 b h0 h1 h3 h4 h5 h6) ((H_single_k_true).or H_CF0a) 5000 C_method3_0 = true := (by as_aux_lemma => kernel_rfl)
end
theorem L_method3_57 {m c f k : Nat} (b : Bd m c f k) (h0 : ¬ vA c 512 = (0)) (h1 : vN k 1055 = (0)) (h2 : acc k = true) (h3 : vA k 1024 = (0)) (h4 : ¬ (m : Int) < (52)) (h5 : ¬ vA k 20 = (0)) (h6 : ¬ vA k 8 = (0)) : @InOk Tryz.prog C_method3_0 (TB m c f k) := by
  letI : Tab := (T_L_method3_57 b h0 h1 h3 h4 h5 h6)
  exact InOk.tab (VRows.same _ _) (InOk.of_run (K := ((H_single_k_true).or H_CF0a)) (n := 5000) mixed (HandOk.or (H_single_k_true_ok b h2 (VRows.same _ _)) H_CF0a_ok) (by kernel_rfl) (L_method3_57_run b h0 h1 h3 h4 h5 h6))
section
variable {m c f k : Nat} (b : Bd m c f k) (h0 : ¬ vA c 512 = (0)) (h1 : vN k 1055 = (0)) (h3 : vA k 8 = (0)) (h4 : vA k 1024 = (0))
abbrev T_L_method1_58 : Tab := (RC b (e9f 4 (0) ++ (e9t 10 (0) ++ (e9t 72 (0) ++ (e9t 5 (0) ++ ([]))))) (by letI := Tab.empty; exact (allApp (e9f_ok rfl h0) (allApp (e9t_ok rfl h1) (allApp (e9t_ok rfl h3) (allApp (e9t_ok rfl h4) ibNil)))))).tab
theorem L_method1_58_run : @inRun Tryz.prog (T_L_method1_58 b h0 h1 h3 h4) ((H_single_k_false).or H_CF0a) 5000 C_method1_1 = true := (by as_aux_lemma => kernel_rfl)
end
theorem L_method1_58 {m c f k : Nat} (b : Bd m c f k) (h0 : ¬ vA c 512 = (0)) (h1 : vN k 1055 = (0)) (h2 : acc k = false) (h3 : vA k 8 = (0)) (h4 : vA k 1024 = (0)) : @InOk Tryz.prog C_method1_1 (TB m c f k) := by
  letI : Tab := (T_L_method1_58 b h0 h1 h3 h4)
  exact InOk.tab (VRows.same _ _) (InOk.of_run (K := ((H_single_k_false).or H_CF0a)) (n := 5000) mixed (HandOk.or (H_single_k_false_ok b h2 (VRows.same _ _)) H_CF0a_ok) (by kernel_rfl) (L_method1_58_run b h0 h1 h3 h4))
section
variable {m c f k : Nat} (b : Bd m c f k) (h0 : ¬ vA c 512 = (0)) (h1 : vN k 1055 = (0)) (h3 : vA k 8 = (0)) (h4 : vA k 1024 = (0))
abbrev T_L_method3_59 : Tab := (RC b (e9f 4 (0) ++ (e9t 10 (0) ++ (e9t 72 (0) ++ (e9t 5 (0) ++ ([]))))) (by letI := Tab.empty; exact (allApp (e9f_ok rfl h0) (allApp (e9t_ok rfl h1) (allApp (e9t_ok rfl h3) (allApp (e9t_ok rfl h4) ibNil)))))).tab
theorem L_method3_59_run : @inRun Tryz.prog (T_L_method3_59 b h0 h1 h3 h4) ((H_single_k_false).or H_CF0a) 5000 C_method3_1 = true := (by as_aux_lemma => kernel_rfl)
end
theorem L_method3_59 {m c f k : Nat} (b : Bd m c f k) (h0 : ¬ vA c 512 = (0)) (h1 : vN k 1055 = (0)) (h2 : acc k = false) (h3 : vA k 8 = (0)) (h4 : vA k 1024 = (0)) : @InOk Tryz.prog C_method3_1 (TB m c f k) := by
  letI : Tab := (T_L_method3_59 b h0 h1 h3 h4)
  exact InOk.tab (VRows.same _ _) (InOk.of_run (K := ((H_single_k_false).or H_CF0a)) (n := 5000) mixed (HandOk.or (H_single_k_false_ok b h2 (VRows.same _ _)) H_CF0a_ok) (by kernel_rfl) (L_method3_59_run b h0 h1 h3 h4))
section
variable {m c f k : Nat} (b : Bd m c f k) (h0 : vA c 512 = (0)) (h1 : vN k 1055 = (0)) (h3 : vA k 8 = (0)) (h4 : vA k 1024 = (0))
abbrev T_L_method1_60 : Tab := (RC b (e9t 4 (0) ++ (e9t 10 (0) ++ (e9t 72 (0) ++ (e9t 5 (0) ++ ([]))))) (by letI := Tab.empty; exact (allApp (e9t_ok rfl h0) (allApp (e9t_ok rfl h1) (allApp (e9t_ok rfl h3) (allApp (e9t_ok rfl h4) ibNil)))))).tab
theorem L_method1_60_run : @inRun Tryz.prog (T_L_method1_60 b h0 h1 h3 h4) ((H_single_k_false).or H_CF0a) 5000 C_method1_1 = true := (by as_aux_lemma => kernel_rfl)
end
theorem L_method1_60 {m c f k : Nat} (b : Bd m c f k) (h0 : vA c 512 = (0)) (h1 : vN k 1055 = (0)) (h2 : acc k = false) (h3 : vA k 8 = (0)) (h4 : vA k 1024 = (0)) : @InOk Tryz.prog C_method1_1 (TB m c f k) := by
  letI : Tab := (T_L_method1_60 b h0 h1 h3 h4)
  exact InOk.tab (VRows.same _ _) (InOk.of_run (K := ((H_single_k_false).or H_CF0a)) (n := 5000) mixed (HandOk.or (H_single_k_false_ok b h2 (VRows.same _ _)) H_CF0a_ok) (by kernel_rfl) (L_method1_60_run b h0 h1 h3 h4))
section
variable {m c f k : Nat} (b : Bd m c f k) (h0 : vA c 512 = (0)) (h1 : vN k 1055 = (0)) (h3 : vA k 8 = (0)) (h4 : vA k 1024 = (0))
abbrev T_L_method3_61 : Tab := (RC b (e9t 4 (0) ++ (e9t 10 (0) ++ (e9t 72 (0) ++ (e9t 5 (0) ++ ([]))))) (by letI := Tab.empty; exact (allApp (e9t_ok rfl h0) (allApp (e9t_ok rfl h1) (allApp (e9t_ok rfl h3) (allApp (e9t_ok rfl h4) ibNil)))))).tab
theorem L_method3_61_run : @inRun Tryz.prog (T_L_method3_61 b h0 h1 h3 h4) ((H_single_k_false).or H_CF0a) 5000 C_method3_1 = true := (by as_aux_lemma => kernel_rfl)
end
theorem L_method3_61 {m c f k : Nat} (b : Bd m c f k) (h0 : vA c 512 = (0)) (h1 : vN k 1055 = (0)) (h2 : acc k = false) (h3 : vA k 8 = (0)) (h4 : vA k 1024 = (0)) : @InOk Tryz.prog C_method3_1 (TB m c f k) := by
  letI : Tab := (T_L_method3_61 b h0 h1 h3 h4)
  exact InOk.tab (VRows.same _ _) (InOk.of_run (K := ((H_single_k_false).or H_CF0a)) (n := 5000) mixed (HandOk.or (H_single_k_false_ok b h2 (VRows.same _ _)) H_CF0a_ok) (by kernel_rfl) (L_method3_61_run b h0 h1 h3 h4))
section
variable {m c f k : Nat} (b : Bd m c f k) (h0 : ¬ vA c 512 = (0)) (h1 : vN k 1055 = (0)) (h3 : vA k 1024 = (0)) (h4 : ¬ (m : Int) < (52)) (h5 : vA k 20 = (0)) (h6 : vA k 3 = (0)) (h7 : ¬ vA k 8 = (0))
abbrev T_L_method1_62 : Tab := (RC b (e9f 4 (0) ++ (e9t 10 (0) ++ (e9t 5 (0) ++ (e11f 0 (52) ++ (e9t 74 (0) ++ (e9t 75 (0) ++ (e9f 72 (0) ++ ([])))))))) (by letI := Tab.empty; exact (allApp (e9f_ok rfl h0) (allApp (e9t_ok rfl h1) (allApp (e9t_ok rfl h3) (allApp (e11f_ok rfl h4) (allApp (e9t_ok rfl h5) (allApp (e9t_ok rfl h6) (allApp (e9f_ok rfl h7) ibNil))))))))).tab
theorem L_method1_62_run : @inRun Tryz.prog (T_L_method1_62 b h0 h1 h3 h4 h5 h6 h7) ((H_single_k_true).or H_CF0a) 5000 C_method1_0 = true := (by as_aux_lemma => kernel_rfl)
end
theorem L_method1_62 {m c f k : Nat} (b : Bd m c f k) (h0 : ¬ vA c 512 = (0)) (h1 : vN k 1055 = (0)) (h2 : acc k = true) (h3 : vA k 1024 = (0)) (h4 : ¬ (m : Int) < (52)) (h5 : vA k 20 = (0)) (h6 : vA k 3 = (0)) (h7 : ¬ vA k 8 = (0)) : @InOk Tryz.prog C_method1_0 (TB m c f k) := by
  letI : Tab := (T_L_method1_62 b h0 h1 h3 h4 h5 h6 h7)
  exact InOk.tab (VRows.same _ _) (InOk.of_run (K := ((H_single_k_true).or H_CF0a)) (n := 5000) mixed (HandOk.or (H_single_k_true_ok b h2 (VRows.same _ _)) H_CF0a_ok) (by kernel_rfl) (L_method1_62_run b h0 h1 h3 h4 h5 h6 h7))
section
variable {m c f k : Nat} (b : Bd m c f k) (h0 : ¬ vA c 512 = (0)) (h1 : vN k 1055 = (0)) (h3 : vA k 1024 = (0)) (h4 : ¬ (m : Int) < (52)) (h5 : vA k 20 = (0)) (h6 : vA k 3 = (0)) (h7 : ¬ vA k 8 = (0))
abbrev T_L_method3_63 : Tab := (RC b (e9f 4 (0) ++ (e9t 10 (0) ++ (e9t 5 (0) ++ (e11f 0 (52) ++ (e9t 74 (0) ++ (e9t 75 (0) ++ (e9f 72 (0) ++ ([])))))))) (by letI := Tab.empty; exact (allApp (e9f_ok rfl h0) (allApp (e9t_ok rfl h1) (allApp (e9t_ok rfl h3) (allApp (e11f_ok rfl h4) (allApp (e9t_ok rfl h5) (allApp (e9t_ok rfl h6) (allApp (e9f_ok rfl h7) ibNil))))))))).tab
theorem L_method3_63_run : @inRun Tryz.prog (T_L_method3_63 b h0 h1 h3 h4 h5 h6 h7) ((H_single_k_true).or H_CF0a) 5000 C_method3_0 = true := (by as_aux_lemma => kernel_rfl)
end
theorem L_method3_63 {m c f k : Nat} (b : Bd m c f k) (h0 : ¬ vA c 512 = (0)) (h1 : vN k 1055 = (0)) (h2 : acc k = true) (h3 : vA k 1024 = (0)) (h4 : ¬ (m : Int) < (52)) (h5 : vA k 20 = (0)) (h6 : vA k 3 = (0)) (h7 : ¬ vA k 8 = (0)) : @InOk Tryz.prog C_method3_0 (TB m c f k) := by
  letI : Tab := (T_L_method3_63 b h0 h1 h3 h4 h5 h6 h7)
  exact InOk.tab (VRows.same _ _) (InOk.of_run (K := ((H_single_k_true).or H_CF0a)) (n := 5000) mixed (HandOk.or (H_single_k_true_ok b h2 (VRows.same _ _)) H_CF0a_ok) (by kernel_rfl) (L_method3_63_run b h0 h1 h3 h4 h5 h6 h7))
section
variable {m c f k : Nat} (b : Bd m c f k) (h0 : ¬ vA c 512 = (0)) (h1 : vN k 1055 = (0)) (h3 : vA k 1024 = (0)) (h4 : ¬ (m : Int) < (52)) (h5 : vA k 20 = (0)) (h6 : ¬ vA k 3 = (0)) (h7 : ¬ vA k 8 = (0))
abbrev T_L_method3_64 : Tab := (RC b (e9f 4 (0) ++ (e9t 10 (0) ++ (e9t 5 (0) ++ (e11f 0 (52) ++ (e9t 74 (0) ++ (e9f 75 (0) ++ (e9f 72 (0) ++ ([])))))))) (by letI := Tab.empty; exact (allApp (e9f_ok rfl h0) (allApp (e9t_ok rfl h1) (allApp (e9t_ok rfl h3) (allApp (e11f_ok rfl h4) (allApp (e9t_ok rfl h5) (allApp (e9f_ok rfl h6) (allApp (e9f_ok rfl h7) ibNil))))))))).tab
theorem L_method3_64_run : @inRun Tryz.prog (T_L_method3_64 b h0 h1 h3 h4 h5 h6 h7) ((H_single_k_true).or H_CF0a) 5000 C_method3_2 = true := (by as_aux_lemma => kernel_rfl)
end
theorem L_method3_64 {m c f k : Nat} (b : Bd m c f k) (h0 : ¬ vA c 512 = (0)) (h1 : vN k 1055 = (0)) (h2 : acc k = true) (h3 : vA k 1024 = (0)) (h4 : ¬ (m : Int) < (52)) (h5 : vA k 20 = (0)) (h6 : ¬ vA k 3 = (0)) (h7 : ¬ vA k 8 = (0)) : @InOk Tryz.prog C_method3_2 (TB m c f k) := by
  letI : Tab := (T_L_method3_64 b h0 h1 h3 h4 h5 h6 h7)
  exact InOk.tab (VRows.same _ _) (InOk.of_run (K := ((H_single_k_true).or H_CF0a)) (n := 5000) mixed (HandOk.or (H_single_k_true_ok b h2 (VRows.same _ _)) H_CF0a_ok) (by kernel_rfl) (L_method3_64_run b h0 h1 h3 h4 h5 h6 h7))
section
variable {m c f k : Nat} (b : Bd m c f k) (h0 : ¬ vA c 512 = (0)) (h1 : vN k 1055 = (0)) (h3 : vA k 1024 = (0)) (h4 : ¬ (m : Int) < (52)) (h5 : vA k 20 = (0)) (h6 : ¬ vA k 3 = (0)) (h7 : ¬ vA k 8 = (0))
abbrev T_L_method4_65 : Tab := (RC b (e9f 4 (0) ++ (e9t 10 (0) ++ (e9t 5 (0) ++ (e11f 0 (52) ++ (e9t 74 (0) ++ (e9f 75 (0) ++ (e9f 72 (0) ++ ([])))))))) (by letI := Tab.empty; exact (allApp (e9f_ok rfl h0) (allApp (e9t_ok rfl h1) (allApp (e9t_ok rfl h3) (allApp (e11f_ok rfl h4) (allApp (e9t_ok rfl h5) (allApp (e9f_ok rfl h6) (allApp (e9f_ok rfl h7) ibNil))))))))).tab
theorem L_method4_65_run : @inRun Tryz.prog (T_L_method4_65 b h0 h1 h3 h4 h5 h6 h7) ((H_single_k_true).or H_CF0a) 5000 C_method4_0 = true := (by as_aux_lemma => kernel_rfl)
end
theorem L_method4_65 {m c f k : Nat} (b : Bd m c f k) (h0 : ¬ vA c 512 = (0)) (h1 : vN k 1055 = (0)) (h2 : acc k = true) (h3 : vA k 1024 = (0)) (h4 : ¬ (m : Int) < (52)) (h5 : vA k 20 = (0)) (h6 : ¬ vA k 3 = (0)) (h7 : ¬ vA k 8 = (0)) : @InOk Tryz.prog C_method4_0 (TB m c f k) := by
  letI : Tab := (T_L_method4_65 b h0 h1 h3 h4 h5 h6 h7)
  exact InOk.tab (VRows.same _ _) (InOk.of_run (K := ((H_single_k_true).or H_CF0a)) (n := 5000) mixed (HandOk.or (H_single_k_true_ok b h2 (VRows.same _ _)) H_CF0a_ok) (by kernel_rfl) (L_method4_65_run b h0 h1 h3 h4 h5 h6 h7))
end Go.Proofs.YtlfinnicdpiaaaaGreatDoor.cf
