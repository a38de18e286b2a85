/-
  Runs of method under the flags by name.
-/
import Derived.Test.YtlfinnicdpiaaaaGreatDoorXN3
import Derived.Test.YtlfinnicdpiaaaaGreatDoorCFB
import Derived.Test.YtlfinnicdpiaaaaGreatDoorCFC
import Derived.KernelRfl
set_option linter.unusedVariables false
set_option linter.unusedSimpArgs false
set_option maxRecDepth 1000000
set_option maxHeartbeats 0
namespace Go.Proofs.YtlfinnicdpiaaaaGreatDoor.cf
open Go.X Go.RowKit
section
variable {m c f k : Nat} (b : Bd m c f k) (h0 : ¬ vA c 512 = (0)) (h1 : vN k 1055 = (0)) (h3 : vA k 8 = (0)) (h4 : ¬ vA k 1024 = (0))
abbrev T_L_method0_22 : Tab := (RC b (e9f 4 (0) ++ (e9t 10 (0) ++ (e9t 72 (0) ++ (e9f 5 (0) ++ ([]))))) (by letI := Tab.empty; exact (allApp (e9f_ok rfl h0) (allApp (e9t_ok rfl h1) (allApp (e9t_ok rfl h3) (allApp (e9f_ok rfl h4) ibNil)))))).tab
theorem L_method0_22_run : @inRun Tryz.prog (T_L_method0_22 b h0 h1 h3 h4) ((H_single_k_false).or H_CF0a) 5000 C_method0_1 = true := (by as_aux_lemma => kernel_rfl)
end
theorem L_method0_22 {m c f k : Nat} (b : Bd m c f k) (h0 : ¬ vA c 512 = (0)) (h1 : vN k 1055 = (0)) (h2 : acc k = false) (h3 : vA k 8 = (0)) (h4 : ¬ vA k 1024 = (0)) : @InOk Tryz.prog C_method0_1 (TB m c f k) := by
  letI : Tab := (T_L_method0_22 b h0 h1 h3 h4)
  exact InOk.tab (VRows.same _ _) (InOk.of_run (K := ((H_single_k_false).or H_CF0a)) (n := 5000) mixed (HandOk.or (H_single_k_false_ok b h2 (VRows.same _ _)) H_CF0a_ok) (by kernel_rfl) (L_method0_22_run b h0 h1 h3 h4))
section
variable {m c f k : Nat} (b : Bd m c f k) (h0 : ¬ vA c 512 = (0)) (h1 : vN k 1055 = (0)) (h3 : vA k 8 = (0)) (h4 : ¬ vA k 1024 = (0))
abbrev T_L_method2_23 : Tab := (RC b (e9f 4 (0) ++ (e9t 10 (0) ++ (e9t 72 (0) ++ (e9f 5 (0) ++ ([]))))) (by letI := Tab.empty; exact (allApp (e9f_ok rfl h0) (allApp (e9t_ok rfl h1) (allApp (e9t_ok rfl h3) (allApp (e9f_ok rfl h4) ibNil)))))).tab
theorem L_method2_23_run : @inRun Tryz.prog (T_L_method2_23 b h0 h1 h3 h4) ((H_single_k_false).or H_CF0a) 5000 C_method2_1 = true := (by as_aux_lemma => kernel_rfl)
end
theorem L_method2_23 {m c f k : Nat} (b : Bd m c f k) (h0 : ¬ vA c 512 = (0)) (h1 : vN k 1055 = (0)) (h2 : acc k = false) (h3 : vA k 8 = (0)) (h4 : ¬ vA k 1024 = (0)) : @InOk Tryz.prog C_method2_1 (TB m c f k) := by
  letI : Tab := (T_L_method2_23 b h0 h1 h3 h4)
  exact InOk.tab (VRows.same _ _) (InOk.of_run (K := ((H_single_k_false).or H_CF0a)) (n := 5000) mixed (HandOk.or (H_single_k_false_ok b h2 (VRows.same _ _)) H_CF0a_ok) (by kernel_rfl) (L_method2_23_run b h0 h1 h3 h4))
section
variable {m c f k : Nat} (b : Bd m c f k) (h0 : vA c 512 = (0)) (h1 : vN k 1055 = (0)) (h3 : vA k 8 = (0)) (h4 : ¬ vA k 1024 = (0))
abbrev T_L_method0_24 : Tab := (RC b (e9t 4 (0) ++ (e9t 10 (0) ++ (e9t 72 (0) ++ (e9f 5 (0) ++ ([]))))) (by letI := Tab.empty; exact (allApp (e9t_ok rfl h0) (allApp (e9t_ok rfl h1) (allApp (e9t_ok rfl h3) (allApp (e9f_ok rfl h4) ibNil)))))).tab
theorem L_method0_24_run : @inRun Tryz.prog (T_L_method0_24 b h0 h1 h3 h4) ((H_single_k_false).or H_CF0a) 5000 C_method0_1 = true := (by as_aux_lemma => kernel_rfl)
end
theorem L_method0_24 {m c f k : Nat} (b : Bd m c f k) (h0 : vA c 512 = (0)) (h1 : vN k 1055 = (0)) (h2 : acc k = false) (h3 : vA k 8 = (0)) (h4 : ¬ vA k 1024 = (0)) : @InOk Tryz.prog C_method0_1 (TB m c f k) := by
  letI : Tab := (T_L_method0_24 b h0 h1 h3 h4)
  exact InOk.tab (VRows.same _ _) (InOk.of_run (K := ((H_single_k_false).or H_CF0a)) (n := 5000) mixed (HandOk.or (H_single_k_false_ok b h2 (VRows.same _ _)) H_CF0a_ok) (by kernel_rfl) (L_method0_24_run b h0 h1 h3 h4))
section
variable {m c f k : Nat} (b : Bd m c f k) (h0 : vA c 512 = (0)) (h1 : vN k 1055 = (0)) (h3 : vA k 8 = (0)) (h4 : ¬ vA k 1024 = (0))
abbrev T_L_method2_25 : Tab := (RC b (e9t 4 (0) ++ (e9t 10 (0) ++ (e9t 72 (0) ++ (e9f 5 (0) ++ ([]))))) (by letI := Tab.empty; exact (allApp (e9t_ok rfl h0) (allApp (e9t_ok rfl h1) (allApp (e9t_ok rfl h3) (allApp (e9f_ok rfl h4) ibNil)))))).tab
theorem L_method2_25_run : @inRun Tryz.prog (T_L_method2_25 b h0 h1 h3 h4) ((H_single_k_false).or H_CF0a) 5000 C_method2_1 = true := (by as_aux_lemma => kernel_rfl)
end
theorem L_method2_25 {m c f k : Nat} (b : Bd m c f k) (h0 : vA c 512 = (0)) (h1 : vN k 1055 = (0)) (h2 : acc k = false) (h3 : vA k 8 = (0)) (h4 : ¬ vA k 1024 = (0)) : @InOk Tryz.prog C_method2_1 (TB m c f k) := by
  letI : Tab := (T_L_method2_25 b h0 h1 h3 h4)
  exact InOk.tab (VRows.same _ _) (InOk.of_run (K := ((H_single_k_false).or H_CF0a)) (n := 5000) mixed (HandOk.or (H_single_k_false_ok b h2 (VRows.same _ _)) H_CF0a_ok) (by kernel_rfl) (L_method2_25_run b h0 h1 h3 h4))
section
variable {m c f k : Nat} (b : Bd m c f k) (h0 : ¬ vA c 512 = (0)) (h1 : vN k 1055 = (0)) (h3 : ¬ vA k 1024 = (0)) (h4 : vA k 26 = (0)) (h5 : ¬ (m : Int) < (52)) (h6 : ¬ vA k 20 = (0)) (h7 : vA k 8 = (0))
abbrev T_L_method0_26 : Tab := (RC b (e9f 4 (0) ++ (e9t 10 (0) ++ (e9f 5 (0) ++ (e9t 73 (0) ++ (e11f 0 (52) ++ (e9f 74 (0) ++ (e9t 72 (0) ++ ([])))))))) (by letI := Tab.empty; exact (allApp (e9f_ok rfl h0) (allApp (e9t_ok rfl h1) (allApp (e9f_ok rfl h3) (allApp (e9t_ok rfl h4) (allApp (e11f_ok rfl h5) (allApp (e9f_ok rfl h6) (allApp (e9t_ok rfl h7) ibNil))))))))).tab
theorem L_method0_26_run : @inRun Tryz.prog (T_L_method0_26 b h0 h1 h3 h4 h5 h6 h7) ((H_single_k_true).or H_CF0a) 5000 C_method0_1 = true := (by as_aux_lemma => kernel_rfl)
end
theorem L_method0_26 {m c f k : Nat} (b : Bd m c f k) (h0 : ¬ vA c 512 = (0)) (h1 : vN k 1055 = (0)) (h2 : acc k = true) (h3 : ¬ vA k 1024 = (0)) (h4 : vA k 26 = (0)) (h5 : ¬ (m : Int) < (52)) (h6 : ¬ vA k 20 = (0)) (h7 : vA k 8 = (0)) : @InOk Tryz.prog C_method0_1 (TB m c f k) := by
  letI : Tab := (T_L_method0_26 b h0 h1 h3 h4 h5 h6 h7)
  exact InOk.tab (VRows.same _ _) (InOk.of_run (K := ((H_single_k_true).or H_CF0a)) (n := 5000) mixed (HandOk.or (H_single_k_true_ok b h2 (VRows.same _ _)) H_CF0a_ok) (by kernel_rfl) (L_method0_26_run b h0 h1 h3 h4 h5 h6 h7))
section
variable {m c f k : Nat} (b : Bd m c f k) (h0 : ¬ vA c 512 = (0)) (h1 : vN k 1055 = (0)) (h3 : ¬ vA k 1024 = (0)) (h4 : vA k 26 = (0)) (h5 : ¬ (m : Int) < (52)) (h6 : ¬ vA k 20 = (0)) (h7 : vA k 8 = (0))
abbrev T_L_method2_27 : Tab := (RC b (e9f 4 (0) ++ (e9t 10 (0) ++ (e9f 5 (0) ++ (e9t 73 (0) ++ (e11f 0 (52) ++ (e9f 74 (0) ++ (e9t 72 (0) ++ ([])))))))) (by letI := Tab.empty; exact (allApp (e9f_ok rfl h0) (allApp (e9t_ok rfl h1) (allApp (e9f_ok rfl h3) (allApp (e9t_ok rfl h4) (allApp (e11f_ok rfl h5) (allApp (e9f_ok rfl h6) (allApp (e9t_ok rfl h7) ibNil))))))))).tab
theorem L_method2_27_run : @inRun Tryz.prog (T_L_method2_27 b h0 h1 h3 h4 h5 h6 h7) ((H_single_k_true).or H_CF0a) 5000 C_method2_1 = true := (by as_aux_lemma => kernel_rfl)
end
theorem L_method2_27 {m c f k : Nat} (b : Bd m c f k) (h0 : ¬ vA c 512 = (0)) (h1 : vN k 1055 = (0)) (h2 : acc k = true) (h3 : ¬ vA k 1024 = (0)) (h4 : vA k 26 = (0)) (h5 : ¬ (m : Int) < (52)) (h6 : ¬ vA k 20 = (0)) (h7 : vA k 8 = (0)) : @InOk Tryz.prog C_method2_1 (TB m c f k) := by
  letI : Tab := (T_L_method2_27 b h0 h1 h3 h4 h5 h6 h7)
  exact InOk.tab (VRows.same _ _) (InOk.of_run (K := ((H_single_k_true).or H_CF0a)) (n := 5000) mixed (HandOk.or (H_single_k_true_ok b h2 (VRows.same _ _)) H_CF0a_ok) (by kernel_rfl) (L_method2_27_run b h0 h1 h3 h4 h5 h6 h7))
section
variable {m c f k : Nat} (b : Bd m c f k) (h0 : ¬ vA c 512 = (0)) (h1 : vN k 1055 = (0)) (h3 : ¬ vA k 1024 = (0)) (h4 : vA k 26 = (0)) (h5 : (m : Int) < (52)) (h6 : ¬ (k : Int) = (1025)) (h7 : vA k 8 = (0))
abbrev T_L_method0_28 : Tab := (RC b (e9f 4 (0) ++ (e9t 10 (0) ++ (e9f 5 (0) ++ (e9t 73 (0) ++ (e11t 0 (52) ++ (e9f 3 (1025) ++ (e9t 72 (0) ++ ([])))))))) (by letI := Tab.empty; exact (allApp (e9f_ok rfl h0) (allApp (e9t_ok rfl h1) (allApp (e9f_ok rfl h3) (allApp (e9t_ok rfl h4) (allApp (e11t_ok rfl h5) (allApp (e9f_ok rfl h6) (allApp (e9t_ok rfl h7) ibNil))))))))).tab
theorem L_method0_28_run : @inRun Tryz.prog (T_L_method0_28 b h0 h1 h3 h4 h5 h6 h7) ((H_single_k_true).or H_CF0a) 5000 C_method0_1 = true := (by as_aux_lemma => kernel_rfl)
end
theorem L_method0_28 {m c f k : Nat} (b : Bd m c f k) (h0 : ¬ vA c 512 = (0)) (h1 : vN k 1055 = (0)) (h2 : acc k = true) (h3 : ¬ vA k 1024 = (0)) (h4 : vA k 26 = (0)) (h5 : (m : Int) < (52)) (h6 : ¬ (k : Int) = (1025)) (h7 : vA k 8 = (0)) : @InOk Tryz.prog C_method0_1 (TB m c f k) := by
  letI : Tab := (T_L_method0_28 b h0 h1 h3 h4 h5 h6 h7)
  exact InOk.tab (VRows.same _ _) (InOk.of_run (K := ((H_single_k_true).or H_CF0a)) (n := 5000) mixed (HandOk.or (H_single_k_true_ok b h2 (VRows.same _ _)) H_CF0a_ok) (by kernel_rfl) (L_method0_28_run b h0 h1 h3 h4 h5 h6 h7))
section
variable {m c f k : Nat} (b : Bd m c f k) (h0 : ¬ vA c 512 = (0)) (h1 : vN k 1055 = (0)) (h3 : ¬ vA k 1024 = (0)) (h4 : vA k 26 = (0)) (h5 : (m : Int) < (52)) (h6 : ¬ (k : Int) = (1025)) (h7 : vA k 8 = (0))
abbrev T_L_method2_29 : Tab := (RC b (e9f 4 (0) ++ (e9t 10 (0) ++ (e9f 5 (0) ++ (e9t 73 (0) ++ (e11t 0 (52) ++ (e9f 3 (1025) ++ (e9t 72 (0) ++ ([])))))))) (by letI := Tab.empty; exact (allApp (e9f_ok rfl h0) (allApp (e9t_ok rfl h1) (allApp (e9f_ok rfl h3) (allApp (e9t_ok rfl h4) (allApp (e11t_ok rfl h5) (allApp (e9f_ok rfl h6) (allApp (e9t_ok rfl h7) ibNil))))))))).tab
theorem L_method2_29_run : @inRun Tryz.prog (T_L_method2_29 b h0 h1 h3 h4 h5 h6 h7) ((H_single_k_true).or H_CF0a) 5000 C_method2_1 = true := (by as_aux_lemma => kernel_rfl)
end
theorem L_method2_29 {m c f k : Nat} (b : Bd m c f k) (h0 : ¬ vA c 512 = (0)) (h1 : vN k 1055 = (0)) (h2 : acc k = true) (h3 : ¬ vA k 1024 = (0)) (h4 : vA k 26 = (0)) (h5 : (m : Int) < (52)) (h6 : ¬ (k : Int) = (1025)) (h7 : vA k 8 = (0)) : @InOk Tryz.prog C_method2_1 (TB m c f k) := by
  letI : Tab := (T_L_method2_29 b h0 h1 h3 h4 h5 h6 h7)
  exact InOk.tab (VRows.same _ _) (InOk.of_run (K := ((H_single_k_true).or H_CF0a)) (n := 5000) mixed (HandOk.or (H_single_k_true_ok b h2 (VRows.same _ _)) H_CF0a_ok) (by kernel_rfl) (L_method2_29_run b h0 h1 h3 h4 h5 h6 h7))
section
variable {m c f k : Nat} (b : Bd m c f k) (h0 : ¬ vA c 512 = (0)) (h1 : vN k 1055 = (0)) (h3 : ¬ vA k 1024 = (0)) (h4 : vA k 26 = (0)) (h5 : ¬ (m : Int) < (52)) (h6 : vA k 20 = (0)) (h7 : vA k 3 = (0)) (h8 : vA k 8 = (0))
abbrev T_L_method0_30 : Tab := (RC b (e9f 4 (0) ++ (e9t 10 (0) ++ (e9f 5 (0) ++ (e9t 73 (0) ++ (e11f 0 (52) ++ (e9t 74 (0) ++ (e9t 75 (0) ++ (e9t 72 (0) ++ ([]))))))))) (by letI := Tab.empty; exact (allApp (e9f_ok rfl h0) (allApp (e9t_ok rfl h1) (allApp (e9f_ok rfl h3) (allApp (e9t_ok rfl h4) (allApp (e11f_ok rfl h5) (allApp (e9t_ok rfl h6) (allApp (e9t_ok rfl h7) (allApp (e9t_ok rfl h8) ibNil)))))))))).tab
theorem L_method0_30_run : @inRun Tryz.prog (T_L_method0_30 b h0 h1 h3 h4 h5 h6 h7 h8) ((H_single_k_true).or H_CF0a) 5000 C_method0_1 = true := (by as_aux_lemma => kernel_rfl)
end
theorem L_method0_30 {m c f k : Nat} (b : Bd m c f k) (h0 : ¬ vA c 512 = (0)) (h1 : vN k 1055 = (0)) (h2 : acc k = true) (h3 : ¬ vA k 1024 = (0)) (h4 : vA k 26 = (0)) (h5 : ¬ (m : Int) < (52)) (h6 : vA k 20 = (0)) (h7 : vA k 3 = (0)) (h8 : vA k 8 = (0)) : @InOk Tryz.prog C_method0_1 (TB m c f k) := by
  letI : Tab := (T_L_method0_30 b h0 h1 h3 h4 h5 h6 h7 h8)
  exact InOk.tab (VRows.same _ _) (InOk.of_run (K := ((H_single_k_true).or H_CF0a)) (n := 5000) mixed (HandOk.or (H_single_k_true_ok b h2 (VRows.same _ _)) H_CF0a_ok) (by kernel_rfl) (L_method0_30_run b h0 h1 h3 h4 h5 h6 h7 h8))
section
variable {m c f k : Nat} (b : Bd m c f k) (h0 : ¬ vA c 512 = (0)) (h1 : vN k 1055 = (0)) (h3 : ¬ vA k 1024 = (0)) (h4 : vA k 26 = (0)) (h5 : ¬ (m : Int) < (52)) (h6 : vA k 20 = (0)) (h7 : vA k 3 = (0)) (h8 : vA k 8 = (0))
abbrev T_L_method2_31 : Tab := (RC b (e9f 4 (0) ++ (e9t 10 (0) ++ (e9f 5 (0) ++ (e9t 73 (0) ++ (e11f 0 (52) ++ (e9t 74 (0) ++ (e9t 75 (0) ++ (e9t 72 (0) ++ ([]))))))))) (by letI := Tab.empty; exact (allApp (e9f_ok rfl h0) (allApp (e9t_ok rfl h1) (allApp (e9f_ok rfl h3) (allApp (e9t_ok rfl h4) (allApp (e11f_ok rfl h5) (allApp (e9t_ok rfl h6) (allApp (e9t_ok rfl h7) (allApp (e9t_ok rfl h8) ibNil)))))))))).tab
theorem L_method2_31_run : @inRun Tryz.prog (T_L_method2_31 b h0 h1 h3 h4 h5 h6 h7 h8) ((H_single_k_true).or H_CF0a) 5000 C_method2_1 = true := (by as_aux_lemma => kernel_rfl)
end
theorem L_method2_31 {m c f k : Nat} (b : Bd m c f k) (h0 : ¬ vA c 512 = (0)) (h1 : vN k 1055 = (0)) (h2 : acc k = true) (h3 : ¬ vA k 1024 = (0)) (h4 : vA k 26 = (0)) (h5 : ¬ (m : Int) < (52)) (h6 : vA k 20 = (0)) (h7 : vA k 3 = (0)) (h8 : vA k 8 = (0)) : @InOk Tryz.prog C_method2_1 (TB m c f k) := by
  letI : Tab := (T_L_method2_31 b h0 h1 h3 h4 h5 h6 h7 h8)
  exact InOk.tab (VRows.same _ _) (InOk.of_run (K := ((H_single_k_true).or H_CF0a)) (n := 5000) mixed (HandOk.or (H_single_k_true_ok b h2 (VRows.same _ _)) H_CF0a_ok) (by kernel_rfl) (L_method2_31_run b h0 h1 h3 h4 h5 h6 h7 h8))
section
variable {m c f k : Nat} (b : Bd m c f k) (h0 : ¬ vA c 512 = (0)) (h1 : vN k 1055 = (0)) (h3 : ¬ vA k 1024 = (0)) (h4 : vA k 26 = (0)) (h5 : ¬ (m : Int) < (52)) (h6 : vA k 20 = (0)) (h7 : ¬ vA k 3 = (0)) (h8 : vA k 8 = (0))
abbrev T_L_method0_32 : Tab := (RC b (e9f 4 (0) ++ (e9t 10 (0) ++ (e9f 5 (0) ++ (e9t 73 (0) ++ (e11f 0 (52) ++ (e9t 74 (0) ++ (e9f 75 (0) ++ (e9t 72 (0) ++ ([]))))))))) (by letI := Tab.empty; exact (allApp (e9f_ok rfl h0) (allApp (e9t_ok rfl h1) (allApp (e9f_ok rfl h3) (allApp (e9t_ok rfl h4) (allApp (e11f_ok rfl h5) (allApp (e9t_ok rfl h6) (allApp (e9f_ok rfl h7) (allApp (e9t_ok rfl h8) ibNil)))))))))).tab
theorem L_method0_32_run : @inRun Tryz.prog (T_L_method0_32 b h0 h1 h3 h4 h5 h6 h7 h8) ((H_single_k_true).or H_CF0a) 5000 C_method0_2 = true := (by as_aux_lemma => kernel_rfl)
end
theorem L_method0_32 {m c f k : Nat} (b : Bd m c f k) (h0 : ¬ vA c 512 = (0)) (h1 : vN k 1055 = (0)) (h2 : acc k = true) (h3 : ¬ vA k 1024 = (0)) (h4 : vA k 26 = (0)) (h5 : ¬ (m : Int) < (52)) (h6 : vA k 20 = (0)) (h7 : ¬ vA k 3 = (0)) (h8 : vA k 8 = (0)) : @InOk Tryz.prog C_method0_2 (TB m c f k) := by
  letI : Tab := (T_L_method0_32 b h0 h1 h3 h4 h5 h6 h7 h8)
  exact InOk.tab (VRows.same _ _) (InOk.of_run (K := ((H_single_k_true).or H_CF0a)) (n := 5000) mixed (HandOk.or (H_single_k_true_ok b h2 (VRows.same _ _)) H_CF0a_ok) (by kernel_rfl) (L_method0_32_run b h0 h1 h3 h4 h5 h6 h7 h8))
section
variable {m c f k : Nat} (b : Bd m c f k) (h0 : ¬ vA c 512 = (0)) (h1 : vN k 1055 = (0)) (h3 : ¬ vA k 1024 = (0)) (h4 : vA k 26 = (0)) (h5 : ¬ (m : Int) < (52)) (h6 : vA k 20 = (0)) (h7 : ¬ vA k 3 = (0)) (h8 : vA k 8 = (0))
abbrev T_L_method2_33 : Tab := (RC b (e9f 4 (0) ++ (e9t 10 (0) ++ (e9f 5 (0) ++ (e9t 73 (0) ++ (e11f 0 (52) ++ (e9t 74 (0) ++ (e9f 75 (0) ++ (e9t 72 (0) ++ ([]))))))))) (by letI := Tab.empty; exact (allApp (e9f_ok rfl h0) (allApp (e9t_ok rfl h1) (allApp (e9f_ok rfl h3) (allApp (e9t_ok rfl h4) (allApp (e11f_ok rfl h5) (allApp (e9t_ok rfl h6) (allApp (e9f_ok rfl h7) (allApp (e9t_ok rfl h8) ibNil)))))))))).tab
theorem L_method2_33_run : @inRun Tryz.prog (T_L_method2_33 b h0 h1 h3 h4 h5 h6 h7 h8) ((H_single_k_true).or H_CF0a) 5000 C_method2_2 = true := (by as_aux_lemma => kernel_rfl)
end
theorem L_method2_33 {m c f k : Nat} (b : Bd m c f k) (h0 : ¬ vA c 512 = (0)) (h1 : vN k 1055 = (0)) (h2 : acc k = true) (h3 : ¬ vA k 1024 = (0)) (h4 : vA k 26 = (0)) (h5 : ¬ (m : Int) < (52)) (h6 : vA k 20 = (0)) (h7 : ¬ vA k 3 = (0)) (h8 : vA k 8 = (0)) : @InOk Tryz.prog C_method2_2 (TB m c f k) := by
  letI : Tab := (T_L_method2_33 b h0 h1 h3 h4 h5 h6 h7 h8)
  exact InOk.tab (VRows.same _ _) (InOk.of_run (K := ((H_single_k_true).or H_CF0a)) (n := 5000) mixed (HandOk.or (H_single_k_true_ok b h2 (VRows.same _ _)) H_CF0a_ok) (by kernel_rfl) (L_method2_33_run b h0 h1 h3 h4 h5 h6 h7 h8))
section
variable {m c f k : Nat} (b : Bd m c f k) (h0 : ¬ vA c 512 = (0)) (h1 : vN k 1055 = (0)) (h3 : ¬ vA k 1024 = (0)) (h4 : vA k 26 = (0)) (h5 : (m : Int) < (52)) (h6 : (k : Int) = (1025)) (h7 : vA k 8 = (0))
abbrev T_L_method0_34 : Tab := (RC b (e9f 4 (0) ++ (e9t 10 (0) ++ (e9f 5 (0) ++ (e9t 73 (0) ++ (e11t 0 (52) ++ (e9t 3 (1025) ++ (e9t 72 (0) ++ ([])))))))) (by letI := Tab.empty; exact (allApp (e9f_ok rfl h0) (allApp (e9t_ok rfl h1) (allApp (e9f_ok rfl h3) (allApp (e9t_ok rfl h4) (allApp (e11t_ok rfl h5) (allApp (e9t_ok rfl h6) (allApp (e9t_ok rfl h7) ibNil))))))))).tab
theorem L_method0_34_run : @inRun Tryz.prog (T_L_method0_34 b h0 h1 h3 h4 h5 h6 h7) ((H_single_k_true).or H_CF0a) 5000 C_method0_2 = true := (by as_aux_lemma => kernel_rfl)
end
theorem L_method0_34 {m c f k : Nat} (b : Bd m c f k) (h0 : ¬ vA c 512 = (0)) (h1 : vN k 1055 = (0)) (h2 : acc k = true) (h3 : ¬ vA k 1024 = (0)) (h4 : vA k 26 = (0)) (h5 : (m : Int) < (52)) (h6 : (k : Int) = (1025)) (h7 : vA k 8 = (0)) : @InOk Tryz.prog C_method0_2 (TB m c f k) := by
  letI : Tab := (T_L_method0_34 b h0 h1 h3 h4 h5 h6 h7)
  exact InOk.tab (VRows.same _ _) (InOk.of_run (K := ((H_single_k_true).or H_CF0a)) (n := 5000) mixed (HandOk.or (H_single_k_true_ok b h2 (VRows.same _ _)) H_CF0a_ok) (by kernel_rfl) (L_method0_34_run b h0 h1 h3 h4 h5 h6 h7))
section
variable {m c f k : Nat} (b : Bd m c f k) (h0 : ¬ vA c 512 = (0)) (h1 : vN k 1055 = (0)) (h3 : ¬ vA k 1024 = (0)) (h4 : vA k 26 = (0)) (h5 : (m : Int) < (52)) (h6 : (k : Int) = (1025)) (h7 : vA k 8 = (0))
abbrev T_L_method2_35 : Tab := (RC b (e9f 4 (0) ++ (e9t 10 (0) ++ (e9f 5 (0) ++ (e9t 73 (0) ++ (e11t 0 (52) ++ (e9t 3 (1025) ++ (e9t 72 (0) ++ ([])))))))) (by letI := Tab.empty; exact (allApp (e9f_ok rfl h0) (allApp (e9t_ok rfl h1) (allApp (e9f_ok rfl h3) (allApp (e9t_ok rfl h4) (allApp (e11t_ok rfl h5) (allApp (e9t_ok rfl h6) (allApp (e9t_ok rfl h7) ibNil))))))))).tab
theorem L_method2_35_run : @inRun Tryz.prog (T_L_method2_35 b h0 h1 h3 h4 h5 h6 h7) ((H_single_k_true).or H_CF0a) 5000 C_method2_2 = true := (by as_aux_lemma => kernel_rfl)
end
theorem L_method2_35 {m c f k : Nat} (b : Bd m c f k) (h0 : ¬ vA c 512 = (0)) (h1 : vN k 1055 = (0)) (h2 : acc k = true) (h3 : ¬ vA k 1024 = (0)) (h4 : vA k 26 = (0)) (h5 : (m : Int) < (52)) (h6 : (k : Int) = (1025)) (h7 : vA k 8 = (0)) : @InOk Tryz.prog C_method2_2 (TB m c f k) := by
  letI : Tab := (T_L_method2_35 b h0 h1 h3 h4 h5 h6 h7)
  exact InOk.tab (VRows.same _ _) (InOk.of_run (K := ((H_single_k_true).or H_CF0a)) (n := 5000) mixed (HandOk.or (H_single_k_true_ok b h2 (VRows.same _ _)) H_CF0a_ok) (by kernel_rfl) (L_method2_35_run b h0 h1 h3 h4 h5 h6 h7))
section
variable {m c f k : Nat} (b : Bd m c f k) (h0 : ¬ vA c 512 = (0)) (h1 : ¬ vN k 1055 = (0)) (h2 : ¬ vA k 8 = (0)) (h3 : vA k 1024 = (0))
abbrev T_L_method1_36 : Tab := (RC b (e9f 4 (0) ++ (e9f 10 (0) ++ (e9f 72 (0) ++ (e9t 5 (0) ++ ([]))))) (by letI := Tab.empty; exact (allApp (e9f_ok rfl h0) (allApp (e9f_ok rfl h1) (allApp (e9f_ok rfl h2) (allApp (e9t_ok rfl h3) ibNil)))))).tab
theorem L_method1_36_run : @inRun Tryz.prog (T_L_method1_36 b h0 h1 h2 h3) H_CF0a 5000 C_method1_0 = true := (by as_aux_lemma => kernel_rfl)
end
theorem L_method1_36 {m c f k : Nat} (b : Bd m c f k) (h0 : ¬ vA c 512 = (0)) (h1 : ¬ vN k 1055 = (0)) (h2 : ¬ vA k 8 = (0)) (h3 : vA k 1024 = (0)) : @InOk Tryz.prog C_method1_0 (TB m c f k) := by
  letI : Tab := (T_L_method1_36 b h0 h1 h2 h3)
  exact InOk.tab (VRows.same _ _) (InOk.of_run (K := H_CF0a) (n := 5000) mixed H_CF0a_ok (by kernel_rfl) (L_method1_36_run b h0 h1 h2 h3))
section
variable {m c f k : Nat} (b : Bd m c f k) (h0 : ¬ vA c 512 = (0)) (h1 : ¬ vN k 1055 = (0)) (h2 : ¬ vA k 8 = (0)) (h3 : vA k 1024 = (0))
abbrev T_L_method3_37 : Tab := (RC b (e9f 4 (0) ++ (e9f 10 (0) ++ (e9f 72 (0) ++ (e9t 5 (0) ++ ([]))))) (by letI := Tab.empty; exact (allApp (e9f_ok rfl h0) (allApp (e9f_ok rfl h1) (allApp (e9f_ok rfl h2) (allApp (e9t_ok rfl h3) ibNil)))))).tab
theorem L_method3_37_run : @inRun Tryz.prog (T_L_method3_37 b h0 h1 h2 h3) H_CF0a 5000 C_method3_0 = true := (by as_aux_lemma => kernel_rfl)
end
theorem L_method3_37 {m c f k : Nat} (b : Bd m c f k) (h0 : ¬ vA c 512 = (0)) (h1 : ¬ vN k 1055 = (0)) (h2 : ¬ vA k 8 = (0)) (h3 : vA k 1024 = (0)) : @InOk Tryz.prog C_method3_0 (TB m c f k) := by
  letI : Tab := (T_L_method3_37 b h0 h1 h2 h3)
  exact InOk.tab (VRows.same _ _) (InOk.of_run (K := H_CF0a) (n := 5000) mixed H_CF0a_ok (by kernel_rfl) (L_method3_37_run b h0 h1 h2 h3))
section
variable {m c f k : Nat} (b : Bd m c f k) (h0 : ¬ vA c 512 = (0)) (h1 : ¬ vN k 1055 = (0)) (h2 : vA k 8 = (0)) (h3 : vA k 1024 = (0))
abbrev T_L_method1_38 : Tab := (RC b (e9f 4 (0) ++ (e9f 10 (0) ++ (e9t 72 (0) ++ (e9t 5 (0) ++ ([]))))) (by letI := Tab.empty; exact (allApp (e9f_ok rfl h0) (allApp (e9f_ok rfl h1) (allApp (e9t_ok rfl h2) (allApp (e9t_ok rfl h3) ibNil)))))).tab
theorem L_method1_38_run : @inRun Tryz.prog (T_L_method1_38 b h0 h1 h2 h3) H_CF0a 5000 C_method1_1 = true := (by as_aux_lemma => kernel_rfl)
end
theorem L_method1_38 {m c f k : Nat} (b : Bd m c f k) (h0 : ¬ vA c 512 = (0)) (h1 : ¬ vN k 1055 = (0)) (h2 : vA k 8 = (0)) (h3 : vA k 1024 = (0)) : @InOk Tryz.prog C_method1_1 (TB m c f k) := by
  letI : Tab := (T_L_method1_38 b h0 h1 h2 h3)
  exact InOk.tab (VRows.same _ _) (InOk.of_run (K := H_CF0a) (n := 5000) mixed H_CF0a_ok (by kernel_rfl) (L_method1_38_run b h0 h1 h2 h3))
section
variable {m c f k : Nat} (b : Bd m c f k) (h0 : ¬ vA c 512 = (0)) (h1 : ¬ vN k 1055 = (0)) (h2 : vA k 8 = (0)) (h3 : vA k 1024 = (0))
abbrev T_L_method3_39 : Tab := (RC b (e9f 4 (0) ++ (e9f 10 (0) ++ (e9t 72 (0) ++ (e9t 5 (0) ++ ([]))))) (by letI := Tab.empty; exact (allApp (e9f_ok rfl h0) (allApp (e9f_ok rfl h1) (allApp (e9t_ok rfl h2) (allApp (e9t_ok rfl h3) ibNil)))))).tab
theorem L_method3_39_run : @inRun Tryz.prog (T_L_method3_39 b h0 h1 h2 h3) H_CF0a 5000 C_method3_1 = true := (by as_aux_lemma => kernel_rfl)
end
theorem L_method3_39 {m c f k : Nat} (b : Bd m c f k) (h0 : ¬ vA c 512 = (0)) (h1 : ¬ vN k 1055 = (0)) (h2 : vA k 8 = (0)) (h3 : vA k 1024 = (0)) : @InOk Tryz.prog C_method3_1 (TB m c f k) := by
  letI : Tab := (T_L_method3_39 b h0 h1 h2 h3)
  exact InOk.tab (VRows.same _ _) (InOk.of_run (K := H_CF0a) (n := 5000) mixed H_CF0a_ok (by kernel_rfl) (L_method3_39_run b h0 h1 h2 h3))
section
variable {m c f k : Nat} (b : Bd m c f k) (h0 : ¬ vA c 512 = (0)) (h1 : vN k 1055 = (0)) (h3 : ¬ vA k 8 = (0)) (h4 : vA k 1024 = (0))
abbrev T_L_method1_40 : Tab := (RC b (e9f 4 (0) ++ (e9t 10 (0) ++ (e9f 72 (0) ++ (e9t 5 (0) ++ ([]))))) (by letI := Tab.empty; exact (allApp (e9f_ok rfl h0) (allApp (e9t_ok rfl h1) (allApp (e9f_ok rfl h3) (allApp (e9t_ok rfl h4) ibNil)))))).tab
theorem L_method1_40_run : @inRun Tryz.prog (T_L_method1_40 b h0 h1 h3 h4) ((H_single_k_false).or H_CF0a) 5000 C_method1_0 = true := (by as_aux_lemma => kernel_rfl)
end
theorem L_method1_40 {m c f k : Nat} (b : Bd m c f k) (h0 : ¬ vA c 512 = (0)) (h1 : vN k 1055 = (0)) (h2 : acc k = false) (h3 : ¬ vA k 8 = (0)) (h4 : vA k 1024 = (0)) : @InOk Tryz.prog C_method1_0 (TB m c f k) := by
  letI : Tab := (T_L_method1_40 b h0 h1 h3 h4)
  exact InOk.tab (VRows.same _ _) (InOk.of_run (K := ((H_single_k_false).or H_CF0a)) (n := 5000) mixed (HandOk.or (H_single_k_false_ok b h2 (VRows.same _ _)) H_CF0a_ok) (by kernel_rfl) (L_method1_40_run b h0 h1 h3 h4))
section
variable {m c f k : Nat} (b : Bd m c f k) (h0 : ¬ vA c 512 = (0)) (h1 : vN k 1055 = (0)) (h3 : ¬ vA k 8 = (0)) (h4 : vA k 1024 = (0))
abbrev T_L_method3_41 : Tab := (RC b (e9f 4 (0) ++ (e9t 10 (0) ++ (e9f 72 (0) ++ (e9t 5 (0) ++ ([]))))) (by letI := Tab.empty; exact (allApp (e9f_ok rfl h0) (allApp (e9t_ok rfl h1) (allApp (e9f_ok rfl h3) (allApp (e9t_ok rfl h4) ibNil)))))).tab
theorem L_method3_41_run : @inRun Tryz.prog (T_L_method3_41 b h0 h1 h3 h4) ((H_single_k_false).or H_CF0a) 5000 C_method3_0 = true := (by as_aux_lemma => kernel_rfl)
end
theorem L_method3_41 {m c f k : Nat} (b : Bd m c f k) (h0 : ¬ vA c 512 = (0)) (h1 : vN k 1055 = (0)) (h2 : acc k = false) (h3 : ¬ vA k 8 = (0)) (h4 : vA k 1024 = (0)) : @InOk Tryz.prog C_method3_0 (TB m c f k) := by
  letI : Tab := (T_L_method3_41 b h0 h1 h3 h4)
  exact InOk.tab (VRows.same _ _) (InOk.of_run (K := ((H_single_k_false).or H_CF0a)) (n := 5000) mixed (HandOk.or (H_single_k_false_ok b h2 (VRows.same _ _)) H_CF0a_ok) (by kernel_rfl) (L_method3_41_run b h0 h1 h3 h4))
section
variable {m c f k : Nat} (b : Bd m c f k) (h0 : ¬ vA c 512 = (0)) (h1 : vN k 1055 = (0)) (h3 : vA k 1024 = (0)) (h4 : ¬ (m : Int) < (52)) (h5 : ¬ vA k 20 = (0)) (h6 : vA k 8 = (0))
abbrev T_L_method1_42 : Tab := (RC b (e9f 4 (0) ++ (e9t 10 (0) ++ (e9t 5 (0) ++ (e11f 0 (52) ++ (e9f 74 (0) ++ (e9t 72 (0) ++ ([]))))))) (by letI := Tab.empty; exact (allApp (e9f_ok rfl h0) (allApp (e9t_ok rfl h1) (allApp (e9t_ok rfl h3) (allApp (e11f_ok rfl h4) (allApp (e9f_ok rfl h5) (allApp (e9t_ok rfl h6) ibNil)))))))).tab
theorem L_method1_42_run : @inRun Tryz.prog (T_L_method1_42 b h0 h1 h3 h4 h5 h6) ((H_single_k_true).or H_CF0a) 5000 C_method1_1 = true := (by as_aux_lemma => kernel_rfl)
end
theorem L_method1_42 {m c f k : Nat} (b : Bd m c f k) (h0 : ¬ vA c 512 = (0)) (h1 : vN k 1055 = (0)) (h2 : acc k = true) (h3 : vA k 1024 = (0)) (h4 : ¬ (m : Int) < (52)) (h5 : ¬ vA k 20 = (0)) (h6 : vA k 8 = (0)) : @InOk Tryz.prog C_method1_1 (TB m c f k) := by
  letI : Tab := (T_L_method1_42 b h0 h1 h3 h4 h5 h6)
  exact InOk.tab (VRows.same _ _) (InOk.of_run (K := ((H_single_k_true).or H_CF0a)) (n := 5000) mixed (HandOk.or (H_single_k_true_ok b h2 (VRows.same _ _)) H_CF0a_ok) (by kernel_rfl) (L_method1_42_run b h0 h1 h3 h4 h5 h6))
section
variable {m c f k : Nat} (b : Bd m c f k) (h0 : ¬ vA c 512 = (0)) (h1 : vN k 1055 = (0)) (h3 : vA k 1024 = (0)) (h4 : ¬ (m : Int) < (52)) (h5 : ¬ vA k 20 = (0)) (h6 : vA k 8 = (0))
abbrev T_L_method3_43 : Tab := (RC b (e9f 4 (0) ++ (e9t 10 (0) ++ (e9t 5 (0) ++ (e11f 0 (52) ++ (e9f 74 (0) ++ (e9t 72 (0) ++ ([]))))))) (by letI := Tab.empty; exact (allApp (e9f_ok rfl h0) (allApp (e9t_ok rfl h1) (allApp (e9t_ok rfl h3) (allApp (e11f_ok rfl h4) (allApp (e9f_ok rfl h5) (allApp (e9t_ok rfl h6) ibNil)))))))).tab
theorem L_method3_43_run : @inRun Tryz.prog (T_L_method3_43 b h0 h1 h3 h4 h5 h6) ((H_single_k_true).or H_CF0a) 5000 C_method3_1 = true := (by as_aux_lemma => kernel_rfl)
end
theorem L_method3_43 {m c f k : Nat} (b : Bd m c f k) (h0 : ¬ vA c 512 = (0)) (h1 : vN k 1055 = (0)) (h2 : acc k = true) (h3 : vA k 1024 = (0)) (h4 : ¬ (m : Int) < (52)) (h5 : ¬ vA k 20 = (0)) (h6 : vA k 8 = (0)) : @InOk Tryz.prog C_method3_1 (TB m c f k) := by
  letI : Tab := (T_L_method3_43 b h0 h1 h3 h4 h5 h6)
  exact InOk.tab (VRows.same _ _) (InOk.of_run (K := ((H_single_k_true).or H_CF0a)) (n := 5000) mixed (HandOk.or (H_single_k_true_ok b h2 (VRows.same _ _)) H_CF0a_ok) (by kernel_rfl) (L_method3_43_run b h0 h1 h3 h4 h5 h6))
end Go.Proofs.YtlfinnicdpiaaaaGreatDoor.cf
