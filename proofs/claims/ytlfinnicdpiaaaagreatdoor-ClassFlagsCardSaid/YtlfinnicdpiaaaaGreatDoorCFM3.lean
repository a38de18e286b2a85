/-
  Runs of method under the flags by name.
-/
import Derived.Test.YtlfinnicdpiaaaaGreatDoorXN3
import Derived.Test.YtlfinnicdpiaaaaGreatDoorCFB
import Derived.Test.YtlfinnicdpiaaaaGreatDoorCFC
import Derived.KernelRfl
set_option linter.unusedVariables false
set_option linter.unusedSimpArgs false
set_option maxRecDepth 1000000
set_option maxHeartbeats 0
namespace Go.Proofs.YtlfinnicdpiaaaaGreatDoor.cf
open Go.X Go.RowKit
section
variable {m c f k : Nat} (b : Bd m c f k) (h0 : vA c 512 = (0)) (h1 : vN k 1055 = (0)) (h3 : vA k 1024 = (0)) (h4 : vA k 8 = (0))
abbrev T_L_method3_66 : Tab := (RC b (e9t 4 (0) ++ (e9t 10 (0) ++ (e9t 5 (0) ++ (e9t 72 (0) ++ ([]))))) (by letI := Tab.empty; exact (allApp (e9t_ok rfl h0) (allApp (e9t_ok rfl h1) (allApp (e9t_ok rfl h3) (allApp (e9t_ok rfl h4) ibNil)))))).tab
theorem L_method3_66_run : @inRun Tryz.prog (T_L_method3_66 b h0 h1 h3 h4) ((H_single_k_true).or H_CF0a) 5000 C_method3_3 = true := (by as_aux_lemma => kernel_rfl)
end
theorem L_method3_66 {m c f k : Nat} (b : Bd m c f k) (h0 : vA c 512 = (0)) (h1 : vN k 1055 = (0)) (h2 : acc k = true) (h3 : vA k 1024 = (0)) (h4 : vA k 8 = (0)) : @InOk Tryz.prog C_method3_3 (TB m c f k) := by
  letI : Tab := (T_L_method3_66 b h0 h1 h3 h4)
  exact InOk.tab (VRows.same _ _) (InOk.of_run (K := ((H_single_k_true).or H_CF0a)) (n := 5000) mixed (HandOk.or (H_single_k_true_ok b h2 (VRows.same _ _)) H_CF0a_ok) (by kernel_rfl) (L_method3_66_run b h0 h1 h3 h4))
section
variable {m c f k : Nat} (b : Bd m c f k) (h0 : vA c 512 = (0)) (h1 : vN k 1055 = (0)) (h3 : vA k 1024 = (0)) (h4 : vA k 8 = (0))
abbrev T_L_method4_67 : Tab := (RC b (e9t 4 (0) ++ (e9t 10 (0) ++ (e9t 5 (0) ++ (e9t 72 (0) ++ ([]))))) (by letI := Tab.empty; exact (allApp (e9t_ok rfl h0) (allApp (e9t_ok rfl h1) (allApp (e9t_ok rfl h3) (allApp (e9t_ok rfl h4) ibNil)))))).tab
theorem L_method4_67_run : @inRun Tryz.prog (T_L_method4_67 b h0 h1 h3 h4) ((H_single_k_true).or H_CF0a) 5000 C_method4_1 = true := (by as_aux_lemma => kernel_rfl)
end
theorem L_method4_67 {m c f k : Nat} (b : Bd m c f k) (h0 : vA c 512 = (0)) (h1 : vN k 1055 = (0)) (h2 : acc k = true) (h3 : vA k 1024 = (0)) (h4 : vA k 8 = (0)) : @InOk Tryz.prog C_method4_1 (TB m c f k) := by
  letI : Tab := (T_L_method4_67 b h0 h1 h3 h4)
  exact InOk.tab (VRows.same _ _) (InOk.of_run (K := ((H_single_k_true).or H_CF0a)) (n := 5000) mixed (HandOk.or (H_single_k_true_ok b h2 (VRows.same _ _)) H_CF0a_ok) (by kernel_rfl) (L_method4_67_run b h0 h1 h3 h4))
section
variable {m c f k : Nat} (b : Bd m c f k) (h0 : vA c 512 = (0)) (h1 : vN k 1055 = (0)) (h3 : vA k 1024 = (0)) (h4 : ¬ vA k 8 = (0))
abbrev T_L_method3_68 : Tab := (RC b (e9t 4 (0) ++ (e9t 10 (0) ++ (e9t 5 (0) ++ (e9f 72 (0) ++ ([]))))) (by letI := Tab.empty; exact (allApp (e9t_ok rfl h0) (allApp (e9t_ok rfl h1) (allApp (e9t_ok rfl h3) (allApp (e9f_ok rfl h4) ibNil)))))).tab
theorem L_method3_68_run : @inRun Tryz.prog (T_L_method3_68 b h0 h1 h3 h4) ((H_single_k_true).or H_CF0a) 5000 C_method3_2 = true := (by as_aux_lemma => kernel_rfl)
end
theorem L_method3_68 {m c f k : Nat} (b : Bd m c f k) (h0 : vA c 512 = (0)) (h1 : vN k 1055 = (0)) (h2 : acc k = true) (h3 : vA k 1024 = (0)) (h4 : ¬ vA k 8 = (0)) : @InOk Tryz.prog C_method3_2 (TB m c f k) := by
  letI : Tab := (T_L_method3_68 b h0 h1 h3 h4)
  exact InOk.tab (VRows.same _ _) (InOk.of_run (K := ((H_single_k_true).or H_CF0a)) (n := 5000) mixed (HandOk.or (H_single_k_true_ok b h2 (VRows.same _ _)) H_CF0a_ok) (by kernel_rfl) (L_method3_68_run b h0 h1 h3 h4))
section
variable {m c f k : Nat} (b : Bd m c f k) (h0 : vA c 512 = (0)) (h1 : vN k 1055 = (0)) (h3 : vA k 1024 = (0)) (h4 : ¬ vA k 8 = (0))
abbrev T_L_method4_69 : Tab := (RC b (e9t 4 (0) ++ (e9t 10 (0) ++ (e9t 5 (0) ++ (e9f 72 (0) ++ ([]))))) (by letI := Tab.empty; exact (allApp (e9t_ok rfl h0) (allApp (e9t_ok rfl h1) (allApp (e9t_ok rfl h3) (allApp (e9f_ok rfl h4) ibNil)))))).tab
theorem L_method4_69_run : @inRun Tryz.prog (T_L_method4_69 b h0 h1 h3 h4) ((H_single_k_true).or H_CF0a) 5000 C_method4_0 = true := (by as_aux_lemma => kernel_rfl)
end
theorem L_method4_69 {m c f k : Nat} (b : Bd m c f k) (h0 : vA c 512 = (0)) (h1 : vN k 1055 = (0)) (h2 : acc k = true) (h3 : vA k 1024 = (0)) (h4 : ¬ vA k 8 = (0)) : @InOk Tryz.prog C_method4_0 (TB m c f k) := by
  letI : Tab := (T_L_method4_69 b h0 h1 h3 h4)
  exact InOk.tab (VRows.same _ _) (InOk.of_run (K := ((H_single_k_true).or H_CF0a)) (n := 5000) mixed (HandOk.or (H_single_k_true_ok b h2 (VRows.same _ _)) H_CF0a_ok) (by kernel_rfl) (L_method4_69_run b h0 h1 h3 h4))
section
variable {m c f k : Nat} (b : Bd m c f k) (h0 : ¬ vA c 512 = (0)) (h1 : vN k 1055 = (0)) (h3 : vA k 1024 = (0)) (h4 : ¬ (m : Int) < (52)) (h5 : vA k 20 = (0)) (h6 : ¬ vA k 3 = (0)) (h7 : vA k 8 = (0))
abbrev T_L_method3_70 : Tab := (RC b (e9f 4 (0) ++ (e9t 10 (0) ++ (e9t 5 (0) ++ (e11f 0 (52) ++ (e9t 74 (0) ++ (e9f 75 (0) ++ (e9t 72 (0) ++ ([])))))))) (by letI := Tab.empty; exact (allApp (e9f_ok rfl h0) (allApp (e9t_ok rfl h1) (allApp (e9t_ok rfl h3) (allApp (e11f_ok rfl h4) (allApp (e9t_ok rfl h5) (allApp (e9f_ok rfl h6) (allApp (e9t_ok rfl h7) ibNil))))))))).tab
theorem L_method3_70_run : @inRun Tryz.prog (T_L_method3_70 b h0 h1 h3 h4 h5 h6 h7) ((H_single_k_true).or H_CF0a) 5000 C_method3_3 = true := (by as_aux_lemma => kernel_rfl)
end
theorem L_method3_70 {m c f k : Nat} (b : Bd m c f k) (h0 : ¬ vA c 512 = (0)) (h1 : vN k 1055 = (0)) (h2 : acc k = true) (h3 : vA k 1024 = (0)) (h4 : ¬ (m : Int) < (52)) (h5 : vA k 20 = (0)) (h6 : ¬ vA k 3 = (0)) (h7 : vA k 8 = (0)) : @InOk Tryz.prog C_method3_3 (TB m c f k) := by
  letI : Tab := (T_L_method3_70 b h0 h1 h3 h4 h5 h6 h7)
  exact InOk.tab (VRows.same _ _) (InOk.of_run (K := ((H_single_k_true).or H_CF0a)) (n := 5000) mixed (HandOk.or (H_single_k_true_ok b h2 (VRows.same _ _)) H_CF0a_ok) (by kernel_rfl) (L_method3_70_run b h0 h1 h3 h4 h5 h6 h7))
section
variable {m c f k : Nat} (b : Bd m c f k) (h0 : ¬ vA c 512 = (0)) (h1 : vN k 1055 = (0)) (h3 : vA k 1024 = (0)) (h4 : ¬ (m : Int) < (52)) (h5 : vA k 20 = (0)) (h6 : ¬ vA k 3 = (0)) (h7 : vA k 8 = (0))
abbrev T_L_method4_71 : Tab := (RC b (e9f 4 (0) ++ (e9t 10 (0) ++ (e9t 5 (0) ++ (e11f 0 (52) ++ (e9t 74 (0) ++ (e9f 75 (0) ++ (e9t 72 (0) ++ ([])))))))) (by letI := Tab.empty; exact (allApp (e9f_ok rfl h0) (allApp (e9t_ok rfl h1) (allApp (e9t_ok rfl h3) (allApp (e11f_ok rfl h4) (allApp (e9t_ok rfl h5) (allApp (e9f_ok rfl h6) (allApp (e9t_ok rfl h7) ibNil))))))))).tab
theorem L_method4_71_run : @inRun Tryz.prog (T_L_method4_71 b h0 h1 h3 h4 h5 h6 h7) ((H_single_k_true).or H_CF0a) 5000 C_method4_1 = true := (by as_aux_lemma => kernel_rfl)
end
theorem L_method4_71 {m c f k : Nat} (b : Bd m c f k) (h0 : ¬ vA c 512 = (0)) (h1 : vN k 1055 = (0)) (h2 : acc k = true) (h3 : vA k 1024 = (0)) (h4 : ¬ (m : Int) < (52)) (h5 : vA k 20 = (0)) (h6 : ¬ vA k 3 = (0)) (h7 : vA k 8 = (0)) : @InOk Tryz.prog C_method4_1 (TB m c f k) := by
  letI : Tab := (T_L_method4_71 b h0 h1 h3 h4 h5 h6 h7)
  exact InOk.tab (VRows.same _ _) (InOk.of_run (K := ((H_single_k_true).or H_CF0a)) (n := 5000) mixed (HandOk.or (H_single_k_true_ok b h2 (VRows.same _ _)) H_CF0a_ok) (by kernel_rfl) (L_method4_71_run b h0 h1 h3 h4 h5 h6 h7))
end Go.Proofs.YtlfinnicdpiaaaaGreatDoor.cf
