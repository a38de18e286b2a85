/-
  Runs of head under the flags by name.
-/
import Derived.Test.YtlfinnicdpiaaaaGreatDoorXN3
import Derived.Test.YtlfinnicdpiaaaaGreatDoorCFB
import Derived.Test.YtlfinnicdpiaaaaGreatDoorCFC
import Derived.KernelRfl
set_option linter.unusedVariables false
set_option linter.unusedSimpArgs false
set_option maxRecDepth 1000000
set_option maxHeartbeats 0
namespace Go.Proofs.YtlfinnicdpiaaaaGreatDoor.cf
open Go.X Go.RowKit
section
variable {m c f k : Nat} (b : Bd m c f k) (h0 : ¬ vA c 512 = (0)) (h1 : ¬ vA c 1024 = (0)) (h2 : vA c 16 = (0)) (h3 : ¬ vN c 1585 = (0))
abbrev T_L_head0_0 : Tab := (RC b (e9f 4 (0) ++ (e9f 25 (0) ++ (e9t 7 (0) ++ (e9f 6 (0) ++ ([]))))) (by letI := Tab.empty; exact (allApp (e9f_ok rfl h0) (allApp (e9f_ok rfl h1) (allApp (e9t_ok rfl h2) (allApp (e9f_ok rfl h3) ibNil)))))).tab
theorem L_head0_0_run : @inRun Tryz.prog (T_L_head0_0 b h0 h1 h2 h3) H_CF0a 5000 C_head0_0 = true := (by as_aux_lemma => kernel_rfl)
end
theorem L_head0_0 {m c f k : Nat} (b : Bd m c f k) (h0 : ¬ vA c 512 = (0)) (h1 : ¬ vA c 1024 = (0)) (h2 : vA c 16 = (0)) (h3 : ¬ vN c 1585 = (0)) : @InOk Tryz.prog C_head0_0 (TB m c f k) := by
  letI : Tab := (T_L_head0_0 b h0 h1 h2 h3)
  exact InOk.tab (VRows.same _ _) (InOk.of_run (K := H_CF0a) (n := 5000) mixed H_CF0a_ok (by kernel_rfl) (L_head0_0_run b h0 h1 h2 h3))
section
variable {m c f k : Nat} (b : Bd m c f k) (h0 : ¬ vA c 512 = (0)) (h1 : ¬ vA c 1024 = (0)) (h2 : vA c 16 = (0)) (h3 : ¬ vN c 1585 = (0))
abbrev T_L_head1_1 : Tab := (RC b (e9f 4 (0) ++ (e9f 25 (0) ++ (e9t 7 (0) ++ (e9f 6 (0) ++ ([]))))) (by letI := Tab.empty; exact (allApp (e9f_ok rfl h0) (allApp (e9f_ok rfl h1) (allApp (e9t_ok rfl h2) (allApp (e9f_ok rfl h3) ibNil)))))).tab
theorem L_head1_1_run : @inRun Tryz.prog (T_L_head1_1 b h0 h1 h2 h3) H_CF0a 5000 C_head1_0 = true := (by as_aux_lemma => kernel_rfl)
end
theorem L_head1_1 {m c f k : Nat} (b : Bd m c f k) (h0 : ¬ vA c 512 = (0)) (h1 : ¬ vA c 1024 = (0)) (h2 : vA c 16 = (0)) (h3 : ¬ vN c 1585 = (0)) : @InOk Tryz.prog C_head1_0 (TB m c f k) := by
  letI : Tab := (T_L_head1_1 b h0 h1 h2 h3)
  exact InOk.tab (VRows.same _ _) (InOk.of_run (K := H_CF0a) (n := 5000) mixed H_CF0a_ok (by kernel_rfl) (L_head1_1_run b h0 h1 h2 h3))
section
variable {m c f k : Nat} (b : Bd m c f k) (h0 : ¬ vA c 512 = (0)) (h1 : ¬ vA c 1024 = (0)) (h2 : vA c 16 = (0)) (h3 : ¬ vN c 1585 = (0))
abbrev T_L_head2_2 : Tab := (RC b (e9f 4 (0) ++ (e9f 25 (0) ++ (e9t 7 (0) ++ (e9f 6 (0) ++ ([]))))) (by letI := Tab.empty; exact (allApp (e9f_ok rfl h0) (allApp (e9f_ok rfl h1) (allApp (e9t_ok rfl h2) (allApp (e9f_ok rfl h3) ibNil)))))).tab
theorem L_head2_2_run : @inRun Tryz.prog (T_L_head2_2 b h0 h1 h2 h3) H_CF0a 5000 C_head2_0 = true := (by as_aux_lemma => kernel_rfl)
end
theorem L_head2_2 {m c f k : Nat} (b : Bd m c f k) (h0 : ¬ vA c 512 = (0)) (h1 : ¬ vA c 1024 = (0)) (h2 : vA c 16 = (0)) (h3 : ¬ vN c 1585 = (0)) : @InOk Tryz.prog C_head2_0 (TB m c f k) := by
  letI : Tab := (T_L_head2_2 b h0 h1 h2 h3)
  exact InOk.tab (VRows.same _ _) (InOk.of_run (K := H_CF0a) (n := 5000) mixed H_CF0a_ok (by kernel_rfl) (L_head2_2_run b h0 h1 h2 h3))
section
variable {m c f k : Nat} (b : Bd m c f k) (h0 : ¬ vA c 512 = (0)) (h1 : ¬ vA c 1024 = (0)) (h2 : vA c 16 = (0)) (h3 : ¬ vN c 1585 = (0))
abbrev T_L_head3_3 : Tab := (RC b (e9f 4 (0) ++ (e9f 25 (0) ++ (e9t 7 (0) ++ (e9f 6 (0) ++ ([]))))) (by letI := Tab.empty; exact (allApp (e9f_ok rfl h0) (allApp (e9f_ok rfl h1) (allApp (e9t_ok rfl h2) (allApp (e9f_ok rfl h3) ibNil)))))).tab
theorem L_head3_3_run : @inRun Tryz.prog (T_L_head3_3 b h0 h1 h2 h3) H_CF0a 5000 C_head3_1 = true := (by as_aux_lemma => kernel_rfl)
end
theorem L_head3_3 {m c f k : Nat} (b : Bd m c f k) (h0 : ¬ vA c 512 = (0)) (h1 : ¬ vA c 1024 = (0)) (h2 : vA c 16 = (0)) (h3 : ¬ vN c 1585 = (0)) : @InOk Tryz.prog C_head3_1 (TB m c f k) := by
  letI : Tab := (T_L_head3_3 b h0 h1 h2 h3)
  exact InOk.tab (VRows.same _ _) (InOk.of_run (K := H_CF0a) (n := 5000) mixed H_CF0a_ok (by kernel_rfl) (L_head3_3_run b h0 h1 h2 h3))
section
variable {m c f k : Nat} (b : Bd m c f k) (h0 : vA c 512 = (0)) (h1 : ¬ vA c 1024 = (0)) (h2 : ¬ vA c 16 = (0)) (h3 : ¬ vN c 1585 = (0))
abbrev T_L_head0_4 : Tab := (RC b (e9t 4 (0) ++ (e9f 25 (0) ++ (e9f 7 (0) ++ (e9f 6 (0) ++ ([]))))) (by letI := Tab.empty; exact (allApp (e9t_ok rfl h0) (allApp (e9f_ok rfl h1) (allApp (e9f_ok rfl h2) (allApp (e9f_ok rfl h3) ibNil)))))).tab
theorem L_head0_4_run : @inRun Tryz.prog (T_L_head0_4 b h0 h1 h2 h3) H_CF0a 5000 C_head0_0 = true := (by as_aux_lemma => kernel_rfl)
end
theorem L_head0_4 {m c f k : Nat} (b : Bd m c f k) (h0 : vA c 512 = (0)) (h1 : ¬ vA c 1024 = (0)) (h2 : ¬ vA c 16 = (0)) (h3 : ¬ vN c 1585 = (0)) : @InOk Tryz.prog C_head0_0 (TB m c f k) := by
  letI : Tab := (T_L_head0_4 b h0 h1 h2 h3)
  exact InOk.tab (VRows.same _ _) (InOk.of_run (K := H_CF0a) (n := 5000) mixed H_CF0a_ok (by kernel_rfl) (L_head0_4_run b h0 h1 h2 h3))
section
variable {m c f k : Nat} (b : Bd m c f k) (h0 : vA c 512 = (0)) (h1 : ¬ vA c 1024 = (0)) (h2 : ¬ vA c 16 = (0)) (h3 : ¬ vN c 1585 = (0))
abbrev T_L_head1_5 : Tab := (RC b (e9t 4 (0) ++ (e9f 25 (0) ++ (e9f 7 (0) ++ (e9f 6 (0) ++ ([]))))) (by letI := Tab.empty; exact (allApp (e9t_ok rfl h0) (allApp (e9f_ok rfl h1) (allApp (e9f_ok rfl h2) (allApp (e9f_ok rfl h3) ibNil)))))).tab
theorem L_head1_5_run : @inRun Tryz.prog (T_L_head1_5 b h0 h1 h2 h3) H_CF0a 5000 C_head1_0 = true := (by as_aux_lemma => kernel_rfl)
end
theorem L_head1_5 {m c f k : Nat} (b : Bd m c f k) (h0 : vA c 512 = (0)) (h1 : ¬ vA c 1024 = (0)) (h2 : ¬ vA c 16 = (0)) (h3 : ¬ vN c 1585 = (0)) : @InOk Tryz.prog C_head1_0 (TB m c f k) := by
  letI : Tab := (T_L_head1_5 b h0 h1 h2 h3)
  exact InOk.tab (VRows.same _ _) (InOk.of_run (K := H_CF0a) (n := 5000) mixed H_CF0a_ok (by kernel_rfl) (L_head1_5_run b h0 h1 h2 h3))
section
variable {m c f k : Nat} (b : Bd m c f k) (h0 : vA c 512 = (0)) (h1 : ¬ vA c 1024 = (0)) (h2 : ¬ vA c 16 = (0)) (h3 : ¬ vN c 1585 = (0))
abbrev T_L_head2_6 : Tab := (RC b (e9t 4 (0) ++ (e9f 25 (0) ++ (e9f 7 (0) ++ (e9f 6 (0) ++ ([]))))) (by letI := Tab.empty; exact (allApp (e9t_ok rfl h0) (allApp (e9f_ok rfl h1) (allApp (e9f_ok rfl h2) (allApp (e9f_ok rfl h3) ibNil)))))).tab
theorem L_head2_6_run : @inRun Tryz.prog (T_L_head2_6 b h0 h1 h2 h3) H_CF0a 5000 C_head2_0 = true := (by as_aux_lemma => kernel_rfl)
end
theorem L_head2_6 {m c f k : Nat} (b : Bd m c f k) (h0 : vA c 512 = (0)) (h1 : ¬ vA c 1024 = (0)) (h2 : ¬ vA c 16 = (0)) (h3 : ¬ vN c 1585 = (0)) : @InOk Tryz.prog C_head2_0 (TB m c f k) := by
  letI : Tab := (T_L_head2_6 b h0 h1 h2 h3)
  exact InOk.tab (VRows.same _ _) (InOk.of_run (K := H_CF0a) (n := 5000) mixed H_CF0a_ok (by kernel_rfl) (L_head2_6_run b h0 h1 h2 h3))
section
variable {m c f k : Nat} (b : Bd m c f k) (h0 : vA c 512 = (0)) (h1 : ¬ vA c 1024 = (0)) (h2 : ¬ vA c 16 = (0)) (h3 : ¬ vN c 1585 = (0))
abbrev T_L_head3_7 : Tab := (RC b (e9t 4 (0) ++ (e9f 25 (0) ++ (e9f 7 (0) ++ (e9f 6 (0) ++ ([]))))) (by letI := Tab.empty; exact (allApp (e9t_ok rfl h0) (allApp (e9f_ok rfl h1) (allApp (e9f_ok rfl h2) (allApp (e9f_ok rfl h3) ibNil)))))).tab
theorem L_head3_7_run : @inRun Tryz.prog (T_L_head3_7 b h0 h1 h2 h3) H_CF0a 5000 C_head3_1 = true := (by as_aux_lemma => kernel_rfl)
end
theorem L_head3_7 {m c f k : Nat} (b : Bd m c f k) (h0 : vA c 512 = (0)) (h1 : ¬ vA c 1024 = (0)) (h2 : ¬ vA c 16 = (0)) (h3 : ¬ vN c 1585 = (0)) : @InOk Tryz.prog C_head3_1 (TB m c f k) := by
  letI : Tab := (T_L_head3_7 b h0 h1 h2 h3)
  exact InOk.tab (VRows.same _ _) (InOk.of_run (K := H_CF0a) (n := 5000) mixed H_CF0a_ok (by kernel_rfl) (L_head3_7_run b h0 h1 h2 h3))
section
variable {m c f k : Nat} (b : Bd m c f k) (h0 : ¬ vA c 512 = (0)) (h1 : vA c 1024 = (0)) (h2 : ¬ vA c 16 = (0)) (h3 : vN c 1585 = (0))
abbrev T_L_head0_8 : Tab := (RC b (e9f 4 (0) ++ (e9t 25 (0) ++ (e9f 7 (0) ++ (e9t 6 (0) ++ ([]))))) (by letI := Tab.empty; exact (allApp (e9f_ok rfl h0) (allApp (e9t_ok rfl h1) (allApp (e9f_ok rfl h2) (allApp (e9t_ok rfl h3) ibNil)))))).tab
theorem L_head0_8_run : @inRun Tryz.prog (T_L_head0_8 b h0 h1 h2 h3) H_CF0a 5000 C_head0_0 = true := (by as_aux_lemma => kernel_rfl)
end
theorem L_head0_8 {m c f k : Nat} (b : Bd m c f k) (h0 : ¬ vA c 512 = (0)) (h1 : vA c 1024 = (0)) (h2 : ¬ vA c 16 = (0)) (h3 : vN c 1585 = (0)) : @InOk Tryz.prog C_head0_0 (TB m c f k) := by
  letI : Tab := (T_L_head0_8 b h0 h1 h2 h3)
  exact InOk.tab (VRows.same _ _) (InOk.of_run (K := H_CF0a) (n := 5000) mixed H_CF0a_ok (by kernel_rfl) (L_head0_8_run b h0 h1 h2 h3))
section
variable {m c f k : Nat} (b : Bd m c f k) (h0 : ¬ vA c 512 = (0)) (h1 : vA c 1024 = (0)) (h2 : ¬ vA c 16 = (0)) (h3 : vN c 1585 = (0))
abbrev T_L_head1_9 : Tab := (RC b (e9f 4 (0) ++ (e9t 25 (0) ++ (e9f 7 (0) ++ (e9t 6 (0) ++ ([]))))) (by letI := Tab.empty; exact (allApp (e9f_ok rfl h0) (allApp (e9t_ok rfl h1) (allApp (e9f_ok rfl h2) (allApp (e9t_ok rfl h3) ibNil)))))).tab
theorem L_head1_9_run : @inRun Tryz.prog (T_L_head1_9 b h0 h1 h2 h3) H_CF0a 5000 C_head1_0 = true := (by as_aux_lemma => kernel_rfl)
end
theorem L_head1_9 {m c f k : Nat} (b : Bd m c f k) (h0 : ¬ vA c 512 = (0)) (h1 : vA c 1024 = (0)) (h2 : ¬ vA c 16 = (0)) (h3 : vN c 1585 = (0)) : @InOk Tryz.prog C_head1_0 (TB m c f k) := by
  letI : Tab := (T_L_head1_9 b h0 h1 h2 h3)
  exact InOk.tab (VRows.same _ _) (InOk.of_run (K := H_CF0a) (n := 5000) mixed H_CF0a_ok (by kernel_rfl) (L_head1_9_run b h0 h1 h2 h3))
section
variable {m c f k : Nat} (b : Bd m c f k) (h0 : ¬ vA c 512 = (0)) (h1 : vA c 1024 = (0)) (h2 : ¬ vA c 16 = (0)) (h3 : vN c 1585 = (0))
abbrev T_L_head2_10 : Tab := (RC b (e9f 4 (0) ++ (e9t 25 (0) ++ (e9f 7 (0) ++ (e9t 6 (0) ++ ([]))))) (by letI := Tab.empty; exact (allApp (e9f_ok rfl h0) (allApp (e9t_ok rfl h1) (allApp (e9f_ok rfl h2) (allApp (e9t_ok rfl h3) ibNil)))))).tab
theorem L_head2_10_run : @inRun Tryz.prog (T_L_head2_10 b h0 h1 h2 h3) H_CF0a 5000 C_head2_0 = true := (by as_aux_lemma => kernel_rfl)
end
theorem L_head2_10 {m c f k : Nat} (b : Bd m c f k) (h0 : ¬ vA c 512 = (0)) (h1 : vA c 1024 = (0)) (h2 : ¬ vA c 16 = (0)) (h3 : vN c 1585 = (0)) : @InOk Tryz.prog C_head2_0 (TB m c f k) := by
  letI : Tab := (T_L_head2_10 b h0 h1 h2 h3)
  exact InOk.tab (VRows.same _ _) (InOk.of_run (K := H_CF0a) (n := 5000) mixed H_CF0a_ok (by kernel_rfl) (L_head2_10_run b h0 h1 h2 h3))
section
variable {m c f k : Nat} (b : Bd m c f k) (h0 : ¬ vA c 512 = (0)) (h1 : vA c 1024 = (0)) (h2 : ¬ vA c 16 = (0)) (h3 : vN c 1585 = (0))
abbrev T_L_head3_11 : Tab := (RC b (e9f 4 (0) ++ (e9t 25 (0) ++ (e9f 7 (0) ++ (e9t 6 (0) ++ ([]))))) (by letI := Tab.empty; exact (allApp (e9f_ok rfl h0) (allApp (e9t_ok rfl h1) (allApp (e9f_ok rfl h2) (allApp (e9t_ok rfl h3) ibNil)))))).tab
theorem L_head3_11_run : @inRun Tryz.prog (T_L_head3_11 b h0 h1 h2 h3) H_CF0a 5000 C_head3_1 = true := (by as_aux_lemma => kernel_rfl)
end
theorem L_head3_11 {m c f k : Nat} (b : Bd m c f k) (h0 : ¬ vA c 512 = (0)) (h1 : vA c 1024 = (0)) (h2 : ¬ vA c 16 = (0)) (h3 : vN c 1585 = (0)) : @InOk Tryz.prog C_head3_1 (TB m c f k) := by
  letI : Tab := (T_L_head3_11 b h0 h1 h2 h3)
  exact InOk.tab (VRows.same _ _) (InOk.of_run (K := H_CF0a) (n := 5000) mixed H_CF0a_ok (by kernel_rfl) (L_head3_11_run b h0 h1 h2 h3))
section
variable {m c f k : Nat} (b : Bd m c f k) (h0 : vA c 512 = (0)) (h1 : vA c 1024 = (0)) (h2 : ¬ vA c 16 = (0)) (h3 : ¬ vN c 1585 = (0))
abbrev T_L_head0_12 : Tab := (RC b (e9t 4 (0) ++ (e9t 25 (0) ++ (e9f 7 (0) ++ (e9f 6 (0) ++ ([]))))) (by letI := Tab.empty; exact (allApp (e9t_ok rfl h0) (allApp (e9t_ok rfl h1) (allApp (e9f_ok rfl h2) (allApp (e9f_ok rfl h3) ibNil)))))).tab
theorem L_head0_12_run : @inRun Tryz.prog (T_L_head0_12 b h0 h1 h2 h3) H_CF0a 5000 C_head0_0 = true := (by as_aux_lemma => kernel_rfl)
end
theorem L_head0_12 {m c f k : Nat} (b : Bd m c f k) (h0 : vA c 512 = (0)) (h1 : vA c 1024 = (0)) (h2 : ¬ vA c 16 = (0)) (h3 : ¬ vN c 1585 = (0)) : @InOk Tryz.prog C_head0_0 (TB m c f k) := by
  letI : Tab := (T_L_head0_12 b h0 h1 h2 h3)
  exact InOk.tab (VRows.same _ _) (InOk.of_run (K := H_CF0a) (n := 5000) mixed H_CF0a_ok (by kernel_rfl) (L_head0_12_run b h0 h1 h2 h3))
section
variable {m c f k : Nat} (b : Bd m c f k) (h0 : vA c 512 = (0)) (h1 : vA c 1024 = (0)) (h2 : ¬ vA c 16 = (0)) (h3 : ¬ vN c 1585 = (0))
abbrev T_L_head1_13 : Tab := (RC b (e9t 4 (0) ++ (e9t 25 (0) ++ (e9f 7 (0) ++ (e9f 6 (0) ++ ([]))))) (by letI := Tab.empty; exact (allApp (e9t_ok rfl h0) (allApp (e9t_ok rfl h1) (allApp (e9f_ok rfl h2) (allApp (e9f_ok rfl h3) ibNil)))))).tab
theorem L_head1_13_run : @inRun Tryz.prog (T_L_head1_13 b h0 h1 h2 h3) H_CF0a 5000 C_head1_0 = true := (by as_aux_lemma => kernel_rfl)
end
theorem L_head1_13 {m c f k : Nat} (b : Bd m c f k) (h0 : vA c 512 = (0)) (h1 : vA c 1024 = (0)) (h2 : ¬ vA c 16 = (0)) (h3 : ¬ vN c 1585 = (0)) : @InOk Tryz.prog C_head1_0 (TB m c f k) := by
  letI : Tab := (T_L_head1_13 b h0 h1 h2 h3)
  exact InOk.tab (VRows.same _ _) (InOk.of_run (K := H_CF0a) (n := 5000) mixed H_CF0a_ok (by kernel_rfl) (L_head1_13_run b h0 h1 h2 h3))
section
variable {m c f k : Nat} (b : Bd m c f k) (h0 : vA c 512 = (0)) (h1 : vA c 1024 = (0)) (h2 : ¬ vA c 16 = (0)) (h3 : ¬ vN c 1585 = (0))
abbrev T_L_head2_14 : Tab := (RC b (e9t 4 (0) ++ (e9t 25 (0) ++ (e9f 7 (0) ++ (e9f 6 (0) ++ ([]))))) (by letI := Tab.empty; exact (allApp (e9t_ok rfl h0) (allApp (e9t_ok rfl h1) (allApp (e9f_ok rfl h2) (allApp (e9f_ok rfl h3) ibNil)))))).tab
theorem L_head2_14_run : @inRun Tryz.prog (T_L_head2_14 b h0 h1 h2 h3) H_CF0a 5000 C_head2_0 = true := (by as_aux_lemma => kernel_rfl)
end
theorem L_head2_14 {m c f k : Nat} (b : Bd m c f k) (h0 : vA c 512 = (0)) (h1 : vA c 1024 = (0)) (h2 : ¬ vA c 16 = (0)) (h3 : ¬ vN c 1585 = (0)) : @InOk Tryz.prog C_head2_0 (TB m c f k) := by
  letI : Tab := (T_L_head2_14 b h0 h1 h2 h3)
  exact InOk.tab (VRows.same _ _) (InOk.of_run (K := H_CF0a) (n := 5000) mixed H_CF0a_ok (by kernel_rfl) (L_head2_14_run b h0 h1 h2 h3))
section
variable {m c f k : Nat} (b : Bd m c f k) (h0 : vA c 512 = (0)) (h1 : vA c 1024 = (0)) (h2 : ¬ vA c 16 = (0)) (h3 : ¬ vN c 1585 = (0))
abbrev T_L_head3_15 : Tab := (RC b (e9t 4 (0) ++ (e9t 25 (0) ++ (e9f 7 (0) ++ (e9f 6 (0) ++ ([]))))) (by letI := Tab.empty; exact (allApp (e9t_ok rfl h0) (allApp (e9t_ok rfl h1) (allApp (e9f_ok rfl h2) (allApp (e9f_ok rfl h3) ibNil)))))).tab
theorem L_head3_15_run : @inRun Tryz.prog (T_L_head3_15 b h0 h1 h2 h3) H_CF0a 5000 C_head3_1 = true := (by as_aux_lemma => kernel_rfl)
end
theorem L_head3_15 {m c f k : Nat} (b : Bd m c f k) (h0 : vA c 512 = (0)) (h1 : vA c 1024 = (0)) (h2 : ¬ vA c 16 = (0)) (h3 : ¬ vN c 1585 = (0)) : @InOk Tryz.prog C_head3_1 (TB m c f k) := by
  letI : Tab := (T_L_head3_15 b h0 h1 h2 h3)
  exact InOk.tab (VRows.same _ _) (InOk.of_run (K := H_CF0a) (n := 5000) mixed H_CF0a_ok (by kernel_rfl) (L_head3_15_run b h0 h1 h2 h3))
section
variable {m c f k : Nat} (b : Bd m c f k) (h0 : vA c 512 = (0)) (h1 : vA c 1024 = (0)) (h2 : vA c 16 = (0)) (h3 : ¬ vN c 1585 = (0))
abbrev T_L_head0_16 : Tab := (RC b (e9t 4 (0) ++ (e9t 25 (0) ++ (e9t 7 (0) ++ (e9f 6 (0) ++ ([]))))) (by letI := Tab.empty; exact (allApp (e9t_ok rfl h0) (allApp (e9t_ok rfl h1) (allApp (e9t_ok rfl h2) (allApp (e9f_ok rfl h3) ibNil)))))).tab
theorem L_head0_16_run : @inRun Tryz.prog (T_L_head0_16 b h0 h1 h2 h3) H_CF0a 5000 C_head0_0 = true := (by as_aux_lemma => kernel_rfl)
end
theorem L_head0_16 {m c f k : Nat} (b : Bd m c f k) (h0 : vA c 512 = (0)) (h1 : vA c 1024 = (0)) (h2 : vA c 16 = (0)) (h3 : ¬ vN c 1585 = (0)) : @InOk Tryz.prog C_head0_0 (TB m c f k) := by
  letI : Tab := (T_L_head0_16 b h0 h1 h2 h3)
  exact InOk.tab (VRows.same _ _) (InOk.of_run (K := H_CF0a) (n := 5000) mixed H_CF0a_ok (by kernel_rfl) (L_head0_16_run b h0 h1 h2 h3))
section
variable {m c f k : Nat} (b : Bd m c f k) (h0 : vA c 512 = (0)) (h1 : vA c 1024 = (0)) (h2 : vA c 16 = (0)) (h3 : ¬ vN c 1585 = (0))
abbrev T_L_head1_17 : Tab := (RC b (e9t 4 (0) ++ (e9t 25 (0) ++ (e9t 7 (0) ++ (e9f 6 (0) ++ ([]))))) (by letI := Tab.empty; exact (allApp (e9t_ok rfl h0) (allApp (e9t_ok rfl h1) (allApp (e9t_ok rfl h2) (allApp (e9f_ok rfl h3) ibNil)))))).tab
theorem L_head1_17_run : @inRun Tryz.prog (T_L_head1_17 b h0 h1 h2 h3) H_CF0a 5000 C_head1_0 = true := (by as_aux_lemma => kernel_rfl)
end
theorem L_head1_17 {m c f k : Nat} (b : Bd m c f k) (h0 : vA c 512 = (0)) (h1 : vA c 1024 = (0)) (h2 : vA c 16 = (0)) (h3 : ¬ vN c 1585 = (0)) : @InOk Tryz.prog C_head1_0 (TB m c f k) := by
  letI : Tab := (T_L_head1_17 b h0 h1 h2 h3)
  exact InOk.tab (VRows.same _ _) (InOk.of_run (K := H_CF0a) (n := 5000) mixed H_CF0a_ok (by kernel_rfl) (L_head1_17_run b h0 h1 h2 h3))
section
variable {m c f k : Nat} (b : Bd m c f k) (h0 : vA c 512 = (0)) (h1 : vA c 1024 = (0)) (h2 : vA c 16 = (0)) (h3 : ¬ vN c 1585 = (0))
abbrev T_L_head2_18 : Tab := (RC b (e9t 4 (0) ++ (e9t 25 (0) ++ (e9t 7 (0) ++ (e9f 6 (0) ++ ([]))))) (by letI := Tab.empty; exact (allApp (e9t_ok rfl h0) (allApp (e9t_ok rfl h1) (allApp (e9t_ok rfl h2) (allApp (e9f_ok rfl h3) ibNil)))))).tab
theorem L_head2_18_run : @inRun Tryz.prog (T_L_head2_18 b h0 h1 h2 h3) H_CF0a 5000 C_head2_0 = true := (by as_aux_lemma => kernel_rfl)
end
theorem L_head2_18 {m c f k : Nat} (b : Bd m c f k) (h0 : vA c 512 = (0)) (h1 : vA c 1024 = (0)) (h2 : vA c 16 = (0)) (h3 : ¬ vN c 1585 = (0)) : @InOk Tryz.prog C_head2_0 (TB m c f k) := by
  letI : Tab := (T_L_head2_18 b h0 h1 h2 h3)
  exact InOk.tab (VRows.same _ _) (InOk.of_run (K := H_CF0a) (n := 5000) mixed H_CF0a_ok (by kernel_rfl) (L_head2_18_run b h0 h1 h2 h3))
section
variable {m c f k : Nat} (b : Bd m c f k) (h0 : vA c 512 = (0)) (h1 : vA c 1024 = (0)) (h2 : vA c 16 = (0)) (h3 : ¬ vN c 1585 = (0))
abbrev T_L_head3_19 : Tab := (RC b (e9t 4 (0) ++ (e9t 25 (0) ++ (e9t 7 (0) ++ (e9f 6 (0) ++ ([]))))) (by letI := Tab.empty; exact (allApp (e9t_ok rfl h0) (allApp (e9t_ok rfl h1) (allApp (e9t_ok rfl h2) (allApp (e9f_ok rfl h3) ibNil)))))).tab
theorem L_head3_19_run : @inRun Tryz.prog (T_L_head3_19 b h0 h1 h2 h3) H_CF0a 5000 C_head3_1 = true := (by as_aux_lemma => kernel_rfl)
end
theorem L_head3_19 {m c f k : Nat} (b : Bd m c f k) (h0 : vA c 512 = (0)) (h1 : vA c 1024 = (0)) (h2 : vA c 16 = (0)) (h3 : ¬ vN c 1585 = (0)) : @InOk Tryz.prog C_head3_1 (TB m c f k) := by
  letI : Tab := (T_L_head3_19 b h0 h1 h2 h3)
  exact InOk.tab (VRows.same _ _) (InOk.of_run (K := H_CF0a) (n := 5000) mixed H_CF0a_ok (by kernel_rfl) (L_head3_19_run b h0 h1 h2 h3))
section
variable {m c f k : Nat} (b : Bd m c f k) (h0 : ¬ vA c 512 = (0)) (h1 : ¬ vA c 1024 = (0)) (h2 : ¬ vA c 16 = (0)) (h3 : vN c 1585 = (0))
abbrev T_L_head0_20 : Tab := (RC b (e9f 4 (0) ++ (e9f 25 (0) ++ (e9f 7 (0) ++ (e9t 6 (0) ++ ([]))))) (by letI := Tab.empty; exact (allApp (e9f_ok rfl h0) (allApp (e9f_ok rfl h1) (allApp (e9f_ok rfl h2) (allApp (e9t_ok rfl h3) ibNil)))))).tab
theorem L_head0_20_run : @inRun Tryz.prog (T_L_head0_20 b h0 h1 h2 h3) H_CF0a 5000 C_head0_0 = true := (by as_aux_lemma => kernel_rfl)
end
theorem L_head0_20 {m c f k : Nat} (b : Bd m c f k) (h0 : ¬ vA c 512 = (0)) (h1 : ¬ vA c 1024 = (0)) (h2 : ¬ vA c 16 = (0)) (h3 : vN c 1585 = (0)) : @InOk Tryz.prog C_head0_0 (TB m c f k) := by
  letI : Tab := (T_L_head0_20 b h0 h1 h2 h3)
  exact InOk.tab (VRows.same _ _) (InOk.of_run (K := H_CF0a) (n := 5000) mixed H_CF0a_ok (by kernel_rfl) (L_head0_20_run b h0 h1 h2 h3))
section
variable {m c f k : Nat} (b : Bd m c f k) (h0 : ¬ vA c 512 = (0)) (h1 : ¬ vA c 1024 = (0)) (h2 : ¬ vA c 16 = (0)) (h3 : vN c 1585 = (0))
abbrev T_L_head1_21 : Tab := (RC b (e9f 4 (0) ++ (e9f 25 (0) ++ (e9f 7 (0) ++ (e9t 6 (0) ++ ([]))))) (by letI := Tab.empty; exact (allApp (e9f_ok rfl h0) (allApp (e9f_ok rfl h1) (allApp (e9f_ok rfl h2) (allApp (e9t_ok rfl h3) ibNil)))))).tab
theorem L_head1_21_run : @inRun Tryz.prog (T_L_head1_21 b h0 h1 h2 h3) H_CF0a 5000 C_head1_0 = true := (by as_aux_lemma => kernel_rfl)
end
theorem L_head1_21 {m c f k : Nat} (b : Bd m c f k) (h0 : ¬ vA c 512 = (0)) (h1 : ¬ vA c 1024 = (0)) (h2 : ¬ vA c 16 = (0)) (h3 : vN c 1585 = (0)) : @InOk Tryz.prog C_head1_0 (TB m c f k) := by
  letI : Tab := (T_L_head1_21 b h0 h1 h2 h3)
  exact InOk.tab (VRows.same _ _) (InOk.of_run (K := H_CF0a) (n := 5000) mixed H_CF0a_ok (by kernel_rfl) (L_head1_21_run b h0 h1 h2 h3))
section
variable {m c f k : Nat} (b : Bd m c f k) (h0 : ¬ vA c 512 = (0)) (h1 : ¬ vA c 1024 = (0)) (h2 : ¬ vA c 16 = (0)) (h3 : vN c 1585 = (0))
abbrev T_L_head2_22 : Tab := (RC b (e9f 4 (0) ++ (e9f 25 (0) ++ (e9f 7 (0) ++ (e9t 6 (0) ++ ([]))))) (by letI := Tab.empty; exact (allApp (e9f_ok rfl h0) (allApp (e9f_ok rfl h1) (allApp (e9f_ok rfl h2) (allApp (e9t_ok rfl h3) ibNil)))))).tab
theorem L_head2_22_run : @inRun Tryz.prog (T_L_head2_22 b h0 h1 h2 h3) H_CF0a 5000 C_head2_0 = true := (by as_aux_lemma => kernel_rfl)
end
theorem L_head2_22 {m c f k : Nat} (b : Bd m c f k) (h0 : ¬ vA c 512 = (0)) (h1 : ¬ vA c 1024 = (0)) (h2 : ¬ vA c 16 = (0)) (h3 : vN c 1585 = (0)) : @InOk Tryz.prog C_head2_0 (TB m c f k) := by
  letI : Tab := (T_L_head2_22 b h0 h1 h2 h3)
  exact InOk.tab (VRows.same _ _) (InOk.of_run (K := H_CF0a) (n := 5000) mixed H_CF0a_ok (by kernel_rfl) (L_head2_22_run b h0 h1 h2 h3))
section
variable {m c f k : Nat} (b : Bd m c f k) (h0 : ¬ vA c 512 = (0)) (h1 : ¬ vA c 1024 = (0)) (h2 : ¬ vA c 16 = (0)) (h3 : vN c 1585 = (0))
abbrev T_L_head3_23 : Tab := (RC b (e9f 4 (0) ++ (e9f 25 (0) ++ (e9f 7 (0) ++ (e9t 6 (0) ++ ([]))))) (by letI := Tab.empty; exact (allApp (e9f_ok rfl h0) (allApp (e9f_ok rfl h1) (allApp (e9f_ok rfl h2) (allApp (e9t_ok rfl h3) ibNil)))))).tab
theorem L_head3_23_run : @inRun Tryz.prog (T_L_head3_23 b h0 h1 h2 h3) H_CF0a 5000 C_head3_1 = true := (by as_aux_lemma => kernel_rfl)
end
theorem L_head3_23 {m c f k : Nat} (b : Bd m c f k) (h0 : ¬ vA c 512 = (0)) (h1 : ¬ vA c 1024 = (0)) (h2 : ¬ vA c 16 = (0)) (h3 : vN c 1585 = (0)) : @InOk Tryz.prog C_head3_1 (TB m c f k) := by
  letI : Tab := (T_L_head3_23 b h0 h1 h2 h3)
  exact InOk.tab (VRows.same _ _) (InOk.of_run (K := H_CF0a) (n := 5000) mixed H_CF0a_ok (by kernel_rfl) (L_head3_23_run b h0 h1 h2 h3))
section
variable {m c f k : Nat} (b : Bd m c f k) (h0 : vA c 512 = (0)) (h1 : ¬ vA c 1024 = (0)) (h2 : vA c 16 = (0)) (h3 : ¬ vN c 1585 = (0))
abbrev T_L_head0_24 : Tab := (RC b (e9t 4 (0) ++ (e9f 25 (0) ++ (e9t 7 (0) ++ (e9f 6 (0) ++ ([]))))) (by letI := Tab.empty; exact (allApp (e9t_ok rfl h0) (allApp (e9f_ok rfl h1) (allApp (e9t_ok rfl h2) (allApp (e9f_ok rfl h3) ibNil)))))).tab
theorem L_head0_24_run : @inRun Tryz.prog (T_L_head0_24 b h0 h1 h2 h3) H_CF0a 5000 C_head0_0 = true := (by as_aux_lemma => kernel_rfl)
end
theorem L_head0_24 {m c f k : Nat} (b : Bd m c f k) (h0 : vA c 512 = (0)) (h1 : ¬ vA c 1024 = (0)) (h2 : vA c 16 = (0)) (h3 : ¬ vN c 1585 = (0)) : @InOk Tryz.prog C_head0_0 (TB m c f k) := by
  letI : Tab := (T_L_head0_24 b h0 h1 h2 h3)
  exact InOk.tab (VRows.same _ _) (InOk.of_run (K := H_CF0a) (n := 5000) mixed H_CF0a_ok (by kernel_rfl) (L_head0_24_run b h0 h1 h2 h3))
section
variable {m c f k : Nat} (b : Bd m c f k) (h0 : vA c 512 = (0)) (h1 : ¬ vA c 1024 = (0)) (h2 : vA c 16 = (0)) (h3 : ¬ vN c 1585 = (0))
abbrev T_L_head1_25 : Tab := (RC b (e9t 4 (0) ++ (e9f 25 (0) ++ (e9t 7 (0) ++ (e9f 6 (0) ++ ([]))))) (by letI := Tab.empty; exact (allApp (e9t_ok rfl h0) (allApp (e9f_ok rfl h1) (allApp (e9t_ok rfl h2) (allApp (e9f_ok rfl h3) ibNil)))))).tab
theorem L_head1_25_run : @inRun Tryz.prog (T_L_head1_25 b h0 h1 h2 h3) H_CF0a 5000 C_head1_0 = true := (by as_aux_lemma => kernel_rfl)
end
theorem L_head1_25 {m c f k : Nat} (b : Bd m c f k) (h0 : vA c 512 = (0)) (h1 : ¬ vA c 1024 = (0)) (h2 : vA c 16 = (0)) (h3 : ¬ vN c 1585 = (0)) : @InOk Tryz.prog C_head1_0 (TB m c f k) := by
  letI : Tab := (T_L_head1_25 b h0 h1 h2 h3)
  exact InOk.tab (VRows.same _ _) (InOk.of_run (K := H_CF0a) (n := 5000) mixed H_CF0a_ok (by kernel_rfl) (L_head1_25_run b h0 h1 h2 h3))
section
variable {m c f k : Nat} (b : Bd m c f k) (h0 : vA c 512 = (0)) (h1 : ¬ vA c 1024 = (0)) (h2 : vA c 16 = (0)) (h3 : ¬ vN c 1585 = (0))
abbrev T_L_head2_26 : Tab := (RC b (e9t 4 (0) ++ (e9f 25 (0) ++ (e9t 7 (0) ++ (e9f 6 (0) ++ ([]))))) (by letI := Tab.empty; exact (allApp (e9t_ok rfl h0) (allApp (e9f_ok rfl h1) (allApp (e9t_ok rfl h2) (allApp (e9f_ok rfl h3) ibNil)))))).tab
theorem L_head2_26_run : @inRun Tryz.prog (T_L_head2_26 b h0 h1 h2 h3) H_CF0a 5000 C_head2_0 = true := (by as_aux_lemma => kernel_rfl)
end
theorem L_head2_26 {m c f k : Nat} (b : Bd m c f k) (h0 : vA c 512 = (0)) (h1 : ¬ vA c 1024 = (0)) (h2 : vA c 16 = (0)) (h3 : ¬ vN c 1585 = (0)) : @InOk Tryz.prog C_head2_0 (TB m c f k) := by
  letI : Tab := (T_L_head2_26 b h0 h1 h2 h3)
  exact InOk.tab (VRows.same _ _) (InOk.of_run (K := H_CF0a) (n := 5000) mixed H_CF0a_ok (by kernel_rfl) (L_head2_26_run b h0 h1 h2 h3))
section
variable {m c f k : Nat} (b : Bd m c f k) (h0 : vA c 512 = (0)) (h1 : ¬ vA c 1024 = (0)) (h2 : vA c 16 = (0)) (h3 : ¬ vN c 1585 = (0))
abbrev T_L_head3_27 : Tab := (RC b (e9t 4 (0) ++ (e9f 25 (0) ++ (e9t 7 (0) ++ (e9f 6 (0) ++ ([]))))) (by letI := Tab.empty; exact (allApp (e9t_ok rfl h0) (allApp (e9f_ok rfl h1) (allApp (e9t_ok rfl h2) (allApp (e9f_ok rfl h3) ibNil)))))).tab
theorem L_head3_27_run : @inRun Tryz.prog (T_L_head3_27 b h0 h1 h2 h3) H_CF0a 5000 C_head3_1 = true := (by as_aux_lemma => kernel_rfl)
end
theorem L_head3_27 {m c f k : Nat} (b : Bd m c f k) (h0 : vA c 512 = (0)) (h1 : ¬ vA c 1024 = (0)) (h2 : vA c 16 = (0)) (h3 : ¬ vN c 1585 = (0)) : @InOk Tryz.prog C_head3_1 (TB m c f k) := by
  letI : Tab := (T_L_head3_27 b h0 h1 h2 h3)
  exact InOk.tab (VRows.same _ _) (InOk.of_run (K := H_CF0a) (n := 5000) mixed H_CF0a_ok (by kernel_rfl) (L_head3_27_run b h0 h1 h2 h3))
section
variable {m c f k : Nat} (b : Bd m c f k) (h0 : ¬ vA c 512 = (0)) (h1 : vA c 1024 = (0)) (h2 : ¬ vA c 16 = (0)) (h3 : ¬ vN c 1585 = (0))
abbrev T_L_head0_28 : Tab := (RC b (e9f 4 (0) ++ (e9t 25 (0) ++ (e9f 7 (0) ++ (e9f 6 (0) ++ ([]))))) (by letI := Tab.empty; exact (allApp (e9f_ok rfl h0) (allApp (e9t_ok rfl h1) (allApp (e9f_ok rfl h2) (allApp (e9f_ok rfl h3) ibNil)))))).tab
theorem L_head0_28_run : @inRun Tryz.prog (T_L_head0_28 b h0 h1 h2 h3) H_CF0a 5000 C_head0_0 = true := (by as_aux_lemma => kernel_rfl)
end
theorem L_head0_28 {m c f k : Nat} (b : Bd m c f k) (h0 : ¬ vA c 512 = (0)) (h1 : vA c 1024 = (0)) (h2 : ¬ vA c 16 = (0)) (h3 : ¬ vN c 1585 = (0)) : @InOk Tryz.prog C_head0_0 (TB m c f k) := by
  letI : Tab := (T_L_head0_28 b h0 h1 h2 h3)
  exact InOk.tab (VRows.same _ _) (InOk.of_run (K := H_CF0a) (n := 5000) mixed H_CF0a_ok (by kernel_rfl) (L_head0_28_run b h0 h1 h2 h3))
section
variable {m c f k : Nat} (b : Bd m c f k) (h0 : ¬ vA c 512 = (0)) (h1 : vA c 1024 = (0)) (h2 : ¬ vA c 16 = (0)) (h3 : ¬ vN c 1585 = (0))
abbrev T_L_head1_29 : Tab := (RC b (e9f 4 (0) ++ (e9t 25 (0) ++ (e9f 7 (0) ++ (e9f 6 (0) ++ ([]))))) (by letI := Tab.empty; exact (allApp (e9f_ok rfl h0) (allApp (e9t_ok rfl h1) (allApp (e9f_ok rfl h2) (allApp (e9f_ok rfl h3) ibNil)))))).tab
theorem L_head1_29_run : @inRun Tryz.prog (T_L_head1_29 b h0 h1 h2 h3) H_CF0a 5000 C_head1_0 = true := (by as_aux_lemma => kernel_rfl)
end
theorem L_head1_29 {m c f k : Nat} (b : Bd m c f k) (h0 : ¬ vA c 512 = (0)) (h1 : vA c 1024 = (0)) (h2 : ¬ vA c 16 = (0)) (h3 : ¬ vN c 1585 = (0)) : @InOk Tryz.prog C_head1_0 (TB m c f k) := by
  letI : Tab := (T_L_head1_29 b h0 h1 h2 h3)
  exact InOk.tab (VRows.same _ _) (InOk.of_run (K := H_CF0a) (n := 5000) mixed H_CF0a_ok (by kernel_rfl) (L_head1_29_run b h0 h1 h2 h3))
section
variable {m c f k : Nat} (b : Bd m c f k) (h0 : ¬ vA c 512 = (0)) (h1 : vA c 1024 = (0)) (h2 : ¬ vA c 16 = (0)) (h3 : ¬ vN c 1585 = (0))
abbrev T_L_head2_30 : Tab := (RC b (e9f 4 (0) ++ (e9t 25 (0) ++ (e9f 7 (0) ++ (e9f 6 (0) ++ ([]))))) (by letI := Tab.empty; exact (allApp (e9f_ok rfl h0) (allApp (e9t_ok rfl h1) (allApp (e9f_ok rfl h2) (allApp (e9f_ok rfl h3) ibNil)))))).tab
theorem L_head2_30_run : @inRun Tryz.prog (T_L_head2_30 b h0 h1 h2 h3) H_CF0a 5000 C_head2_0 = true := (by as_aux_lemma => kernel_rfl)
end
theorem L_head2_30 {m c f k : Nat} (b : Bd m c f k) (h0 : ¬ vA c 512 = (0)) (h1 : vA c 1024 = (0)) (h2 : ¬ vA c 16 = (0)) (h3 : ¬ vN c 1585 = (0)) : @InOk Tryz.prog C_head2_0 (TB m c f k) := by
  letI : Tab := (T_L_head2_30 b h0 h1 h2 h3)
  exact InOk.tab (VRows.same _ _) (InOk.of_run (K := H_CF0a) (n := 5000) mixed H_CF0a_ok (by kernel_rfl) (L_head2_30_run b h0 h1 h2 h3))
section
variable {m c f k : Nat} (b : Bd m c f k) (h0 : ¬ vA c 512 = (0)) (h1 : vA c 1024 = (0)) (h2 : ¬ vA c 16 = (0)) (h3 : ¬ vN c 1585 = (0))
abbrev T_L_head3_31 : Tab := (RC b (e9f 4 (0) ++ (e9t 25 (0) ++ (e9f 7 (0) ++ (e9f 6 (0) ++ ([]))))) (by letI := Tab.empty; exact (allApp (e9f_ok rfl h0) (allApp (e9t_ok rfl h1) (allApp (e9f_ok rfl h2) (allApp (e9f_ok rfl h3) ibNil)))))).tab
theorem L_head3_31_run : @inRun Tryz.prog (T_L_head3_31 b h0 h1 h2 h3) H_CF0a 5000 C_head3_1 = true := (by as_aux_lemma => kernel_rfl)
end
theorem L_head3_31 {m c f k : Nat} (b : Bd m c f k) (h0 : ¬ vA c 512 = (0)) (h1 : vA c 1024 = (0)) (h2 : ¬ vA c 16 = (0)) (h3 : ¬ vN c 1585 = (0)) : @InOk Tryz.prog C_head3_1 (TB m c f k) := by
  letI : Tab := (T_L_head3_31 b h0 h1 h2 h3)
  exact InOk.tab (VRows.same _ _) (InOk.of_run (K := H_CF0a) (n := 5000) mixed H_CF0a_ok (by kernel_rfl) (L_head3_31_run b h0 h1 h2 h3))
section
variable {m c f k : Nat} (b : Bd m c f k) (h0 : ¬ vA c 512 = (0)) (h1 : vA c 1024 = (0)) (h2 : vA c 16 = (0)) (h3 : vN c 1585 = (0))
abbrev T_L_head0_32 : Tab := (RC b (e9f 4 (0) ++ (e9t 25 (0) ++ (e9t 7 (0) ++ (e9t 6 (0) ++ ([]))))) (by letI := Tab.empty; exact (allApp (e9f_ok rfl h0) (allApp (e9t_ok rfl h1) (allApp (e9t_ok rfl h2) (allApp (e9t_ok rfl h3) ibNil)))))).tab
theorem L_head0_32_run : @inRun Tryz.prog (T_L_head0_32 b h0 h1 h2 h3) H_CF0a 5000 C_head0_0 = true := (by as_aux_lemma => kernel_rfl)
end
theorem L_head0_32 {m c f k : Nat} (b : Bd m c f k) (h0 : ¬ vA c 512 = (0)) (h1 : vA c 1024 = (0)) (h2 : vA c 16 = (0)) (h3 : vN c 1585 = (0)) : @InOk Tryz.prog C_head0_0 (TB m c f k) := by
  letI : Tab := (T_L_head0_32 b h0 h1 h2 h3)
  exact InOk.tab (VRows.same _ _) (InOk.of_run (K := H_CF0a) (n := 5000) mixed H_CF0a_ok (by kernel_rfl) (L_head0_32_run b h0 h1 h2 h3))
section
variable {m c f k : Nat} (b : Bd m c f k) (h0 : ¬ vA c 512 = (0)) (h1 : vA c 1024 = (0)) (h2 : vA c 16 = (0)) (h3 : vN c 1585 = (0))
abbrev T_L_head1_33 : Tab := (RC b (e9f 4 (0) ++ (e9t 25 (0) ++ (e9t 7 (0) ++ (e9t 6 (0) ++ ([]))))) (by letI := Tab.empty; exact (allApp (e9f_ok rfl h0) (allApp (e9t_ok rfl h1) (allApp (e9t_ok rfl h2) (allApp (e9t_ok rfl h3) ibNil)))))).tab
theorem L_head1_33_run : @inRun Tryz.prog (T_L_head1_33 b h0 h1 h2 h3) H_CF0a 5000 C_head1_0 = true := (by as_aux_lemma => kernel_rfl)
end
theorem L_head1_33 {m c f k : Nat} (b : Bd m c f k) (h0 : ¬ vA c 512 = (0)) (h1 : vA c 1024 = (0)) (h2 : vA c 16 = (0)) (h3 : vN c 1585 = (0)) : @InOk Tryz.prog C_head1_0 (TB m c f k) := by
  letI : Tab := (T_L_head1_33 b h0 h1 h2 h3)
  exact InOk.tab (VRows.same _ _) (InOk.of_run (K := H_CF0a) (n := 5000) mixed H_CF0a_ok (by kernel_rfl) (L_head1_33_run b h0 h1 h2 h3))
section
variable {m c f k : Nat} (b : Bd m c f k) (h0 : ¬ vA c 512 = (0)) (h1 : vA c 1024 = (0)) (h2 : vA c 16 = (0)) (h3 : vN c 1585 = (0))
abbrev T_L_head2_34 : Tab := (RC b (e9f 4 (0) ++ (e9t 25 (0) ++ (e9t 7 (0) ++ (e9t 6 (0) ++ ([]))))) (by letI := Tab.empty; exact (allApp (e9f_ok rfl h0) (allApp (e9t_ok rfl h1) (allApp (e9t_ok rfl h2) (allApp (e9t_ok rfl h3) ibNil)))))).tab
theorem L_head2_34_run : @inRun Tryz.prog (T_L_head2_34 b h0 h1 h2 h3) H_CF0a 5000 C_head2_0 = true := (by as_aux_lemma => kernel_rfl)
end
theorem L_head2_34 {m c f k : Nat} (b : Bd m c f k) (h0 : ¬ vA c 512 = (0)) (h1 : vA c 1024 = (0)) (h2 : vA c 16 = (0)) (h3 : vN c 1585 = (0)) : @InOk Tryz.prog C_head2_0 (TB m c f k) := by
  letI : Tab := (T_L_head2_34 b h0 h1 h2 h3)
  exact InOk.tab (VRows.same _ _) (InOk.of_run (K := H_CF0a) (n := 5000) mixed H_CF0a_ok (by kernel_rfl) (L_head2_34_run b h0 h1 h2 h3))
section
variable {m c f k : Nat} (b : Bd m c f k) (h0 : ¬ vA c 512 = (0)) (h1 : vA c 1024 = (0)) (h2 : vA c 16 = (0)) (h3 : vN c 1585 = (0))
abbrev T_L_head3_35 : Tab := (RC b (e9f 4 (0) ++ (e9t 25 (0) ++ (e9t 7 (0) ++ (e9t 6 (0) ++ ([]))))) (by letI := Tab.empty; exact (allApp (e9f_ok rfl h0) (allApp (e9t_ok rfl h1) (allApp (e9t_ok rfl h2) (allApp (e9t_ok rfl h3) ibNil)))))).tab
theorem L_head3_35_run : @inRun Tryz.prog (T_L_head3_35 b h0 h1 h2 h3) H_CF0a 5000 C_head3_1 = true := (by as_aux_lemma => kernel_rfl)
end
theorem L_head3_35 {m c f k : Nat} (b : Bd m c f k) (h0 : ¬ vA c 512 = (0)) (h1 : vA c 1024 = (0)) (h2 : vA c 16 = (0)) (h3 : vN c 1585 = (0)) : @InOk Tryz.prog C_head3_1 (TB m c f k) := by
  letI : Tab := (T_L_head3_35 b h0 h1 h2 h3)
  exact InOk.tab (VRows.same _ _) (InOk.of_run (K := H_CF0a) (n := 5000) mixed H_CF0a_ok (by kernel_rfl) (L_head3_35_run b h0 h1 h2 h3))
section
variable {m c f k : Nat} (b : Bd m c f k) (h0 : ¬ vA c 512 = (0)) (h1 : ¬ vA c 1024 = (0)) (h2 : ¬ vA c 16 = (0)) (h3 : ¬ vN c 1585 = (0))
abbrev T_L_head0_36 : Tab := (RC b (e9f 4 (0) ++ (e9f 25 (0) ++ (e9f 7 (0) ++ (e9f 6 (0) ++ ([]))))) (by letI := Tab.empty; exact (allApp (e9f_ok rfl h0) (allApp (e9f_ok rfl h1) (allApp (e9f_ok rfl h2) (allApp (e9f_ok rfl h3) ibNil)))))).tab
theorem L_head0_36_run : @inRun Tryz.prog (T_L_head0_36 b h0 h1 h2 h3) H_CF0a 5000 C_head0_0 = true := (by as_aux_lemma => kernel_rfl)
end
theorem L_head0_36 {m c f k : Nat} (b : Bd m c f k) (h0 : ¬ vA c 512 = (0)) (h1 : ¬ vA c 1024 = (0)) (h2 : ¬ vA c 16 = (0)) (h3 : ¬ vN c 1585 = (0)) : @InOk Tryz.prog C_head0_0 (TB m c f k) := by
  letI : Tab := (T_L_head0_36 b h0 h1 h2 h3)
  exact InOk.tab (VRows.same _ _) (InOk.of_run (K := H_CF0a) (n := 5000) mixed H_CF0a_ok (by kernel_rfl) (L_head0_36_run b h0 h1 h2 h3))
section
variable {m c f k : Nat} (b : Bd m c f k) (h0 : ¬ vA c 512 = (0)) (h1 : ¬ vA c 1024 = (0)) (h2 : ¬ vA c 16 = (0)) (h3 : ¬ vN c 1585 = (0))
abbrev T_L_head1_37 : Tab := (RC b (e9f 4 (0) ++ (e9f 25 (0) ++ (e9f 7 (0) ++ (e9f 6 (0) ++ ([]))))) (by letI := Tab.empty; exact (allApp (e9f_ok rfl h0) (allApp (e9f_ok rfl h1) (allApp (e9f_ok rfl h2) (allApp (e9f_ok rfl h3) ibNil)))))).tab
theorem L_head1_37_run : @inRun Tryz.prog (T_L_head1_37 b h0 h1 h2 h3) H_CF0a 5000 C_head1_0 = true := (by as_aux_lemma => kernel_rfl)
end
theorem L_head1_37 {m c f k : Nat} (b : Bd m c f k) (h0 : ¬ vA c 512 = (0)) (h1 : ¬ vA c 1024 = (0)) (h2 : ¬ vA c 16 = (0)) (h3 : ¬ vN c 1585 = (0)) : @InOk Tryz.prog C_head1_0 (TB m c f k) := by
  letI : Tab := (T_L_head1_37 b h0 h1 h2 h3)
  exact InOk.tab (VRows.same _ _) (InOk.of_run (K := H_CF0a) (n := 5000) mixed H_CF0a_ok (by kernel_rfl) (L_head1_37_run b h0 h1 h2 h3))
section
variable {m c f k : Nat} (b : Bd m c f k) (h0 : ¬ vA c 512 = (0)) (h1 : ¬ vA c 1024 = (0)) (h2 : ¬ vA c 16 = (0)) (h3 : ¬ vN c 1585 = (0))
abbrev T_L_head2_38 : Tab := (RC b (e9f 4 (0) ++ (e9f 25 (0) ++ (e9f 7 (0) ++ (e9f 6 (0) ++ ([]))))) (by letI := Tab.empty; exact (allApp (e9f_ok rfl h0) (allApp (e9f_ok rfl h1) (allApp (e9f_ok rfl h2) (allApp (e9f_ok rfl h3) ibNil)))))).tab
theorem L_head2_38_run : @inRun Tryz.prog (T_L_head2_38 b h0 h1 h2 h3) H_CF0a 5000 C_head2_0 = true := (by as_aux_lemma => kernel_rfl)
end
theorem L_head2_38 {m c f k : Nat} (b : Bd m c f k) (h0 : ¬ vA c 512 = (0)) (h1 : ¬ vA c 1024 = (0)) (h2 : ¬ vA c 16 = (0)) (h3 : ¬ vN c 1585 = (0)) : @InOk Tryz.prog C_head2_0 (TB m c f k) := by
  letI : Tab := (T_L_head2_38 b h0 h1 h2 h3)
  exact InOk.tab (VRows.same _ _) (InOk.of_run (K := H_CF0a) (n := 5000) mixed H_CF0a_ok (by kernel_rfl) (L_head2_38_run b h0 h1 h2 h3))
section
variable {m c f k : Nat} (b : Bd m c f k) (h0 : ¬ vA c 512 = (0)) (h1 : ¬ vA c 1024 = (0)) (h2 : ¬ vA c 16 = (0)) (h3 : ¬ vN c 1585 = (0))
abbrev T_L_head3_39 : Tab := (RC b (e9f 4 (0) ++ (e9f 25 (0) ++ (e9f 7 (0) ++ (e9f 6 (0) ++ ([]))))) (by letI := Tab.empty; exact (allApp (e9f_ok rfl h0) (allApp (e9f_ok rfl h1) (allApp (e9f_ok rfl h2) (allApp (e9f_ok rfl h3) ibNil)))))).tab
theorem L_head3_39_run : @inRun Tryz.prog (T_L_head3_39 b h0 h1 h2 h3) H_CF0a 5000 C_head3_1 = true := (by as_aux_lemma => kernel_rfl)
end
theorem L_head3_39 {m c f k : Nat} (b : Bd m c f k) (h0 : ¬ vA c 512 = (0)) (h1 : ¬ vA c 1024 = (0)) (h2 : ¬ vA c 16 = (0)) (h3 : ¬ vN c 1585 = (0)) : @InOk Tryz.prog C_head3_1 (TB m c f k) := by
  letI : Tab := (T_L_head3_39 b h0 h1 h2 h3)
  exact InOk.tab (VRows.same _ _) (InOk.of_run (K := H_CF0a) (n := 5000) mixed H_CF0a_ok (by kernel_rfl) (L_head3_39_run b h0 h1 h2 h3))
section
variable {m c f k : Nat} (b : Bd m c f k) (h0 : vA c 512 = (0)) (h1 : ¬ vA c 1024 = (0)) (h2 : ¬ vA c 16 = (0)) (h3 : vN c 1585 = (0))
abbrev T_L_head0_40 : Tab := (RC b (e9t 4 (0) ++ (e9f 25 (0) ++ (e9f 7 (0) ++ (e9t 6 (0) ++ ([]))))) (by letI := Tab.empty; exact (allApp (e9t_ok rfl h0) (allApp (e9f_ok rfl h1) (allApp (e9f_ok rfl h2) (allApp (e9t_ok rfl h3) ibNil)))))).tab
theorem L_head0_40_run : @inRun Tryz.prog (T_L_head0_40 b h0 h1 h2 h3) H_CF0a 5000 C_head0_0 = true := (by as_aux_lemma => kernel_rfl)
end
theorem L_head0_40 {m c f k : Nat} (b : Bd m c f k) (h0 : vA c 512 = (0)) (h1 : ¬ vA c 1024 = (0)) (h2 : ¬ vA c 16 = (0)) (h3 : vN c 1585 = (0)) : @InOk Tryz.prog C_head0_0 (TB m c f k) := by
  letI : Tab := (T_L_head0_40 b h0 h1 h2 h3)
  exact InOk.tab (VRows.same _ _) (InOk.of_run (K := H_CF0a) (n := 5000) mixed H_CF0a_ok (by kernel_rfl) (L_head0_40_run b h0 h1 h2 h3))
section
variable {m c f k : Nat} (b : Bd m c f k) (h0 : vA c 512 = (0)) (h1 : ¬ vA c 1024 = (0)) (h2 : ¬ vA c 16 = (0)) (h3 : vN c 1585 = (0))
abbrev T_L_head1_41 : Tab := (RC b (e9t 4 (0) ++ (e9f 25 (0) ++ (e9f 7 (0) ++ (e9t 6 (0) ++ ([]))))) (by letI := Tab.empty; exact (allApp (e9t_ok rfl h0) (allApp (e9f_ok rfl h1) (allApp (e9f_ok rfl h2) (allApp (e9t_ok rfl h3) ibNil)))))).tab
theorem L_head1_41_run : @inRun Tryz.prog (T_L_head1_41 b h0 h1 h2 h3) H_CF0a 5000 C_head1_0 = true := (by as_aux_lemma => kernel_rfl)
end
theorem L_head1_41 {m c f k : Nat} (b : Bd m c f k) (h0 : vA c 512 = (0)) (h1 : ¬ vA c 1024 = (0)) (h2 : ¬ vA c 16 = (0)) (h3 : vN c 1585 = (0)) : @InOk Tryz.prog C_head1_0 (TB m c f k) := by
  letI : Tab := (T_L_head1_41 b h0 h1 h2 h3)
  exact InOk.tab (VRows.same _ _) (InOk.of_run (K := H_CF0a) (n := 5000) mixed H_CF0a_ok (by kernel_rfl) (L_head1_41_run b h0 h1 h2 h3))
section
variable {m c f k : Nat} (b : Bd m c f k) (h0 : vA c 512 = (0)) (h1 : ¬ vA c 1024 = (0)) (h2 : ¬ vA c 16 = (0)) (h3 : vN c 1585 = (0))
abbrev T_L_head2_42 : Tab := (RC b (e9t 4 (0) ++ (e9f 25 (0) ++ (e9f 7 (0) ++ (e9t 6 (0) ++ ([]))))) (by letI := Tab.empty; exact (allApp (e9t_ok rfl h0) (allApp (e9f_ok rfl h1) (allApp (e9f_ok rfl h2) (allApp (e9t_ok rfl h3) ibNil)))))).tab
theorem L_head2_42_run : @inRun Tryz.prog (T_L_head2_42 b h0 h1 h2 h3) H_CF0a 5000 C_head2_0 = true := (by as_aux_lemma => kernel_rfl)
end
theorem L_head2_42 {m c f k : Nat} (b : Bd m c f k) (h0 : vA c 512 = (0)) (h1 : ¬ vA c 1024 = (0)) (h2 : ¬ vA c 16 = (0)) (h3 : vN c 1585 = (0)) : @InOk Tryz.prog C_head2_0 (TB m c f k) := by
  letI : Tab := (T_L_head2_42 b h0 h1 h2 h3)
  exact InOk.tab (VRows.same _ _) (InOk.of_run (K := H_CF0a) (n := 5000) mixed H_CF0a_ok (by kernel_rfl) (L_head2_42_run b h0 h1 h2 h3))
section
variable {m c f k : Nat} (b : Bd m c f k) (h0 : vA c 512 = (0)) (h1 : ¬ vA c 1024 = (0)) (h2 : ¬ vA c 16 = (0)) (h3 : vN c 1585 = (0))
abbrev T_L_head3_43 : Tab := (RC b (e9t 4 (0) ++ (e9f 25 (0) ++ (e9f 7 (0) ++ (e9t 6 (0) ++ ([]))))) (by letI := Tab.empty; exact (allApp (e9t_ok rfl h0) (allApp (e9f_ok rfl h1) (allApp (e9f_ok rfl h2) (allApp (e9t_ok rfl h3) ibNil)))))).tab
theorem L_head3_43_run : @inRun Tryz.prog (T_L_head3_43 b h0 h1 h2 h3) H_CF0a 5000 C_head3_1 = true := (by as_aux_lemma => kernel_rfl)
end
theorem L_head3_43 {m c f k : Nat} (b : Bd m c f k) (h0 : vA c 512 = (0)) (h1 : ¬ vA c 1024 = (0)) (h2 : ¬ vA c 16 = (0)) (h3 : vN c 1585 = (0)) : @InOk Tryz.prog C_head3_1 (TB m c f k) := by
  letI : Tab := (T_L_head3_43 b h0 h1 h2 h3)
  exact InOk.tab (VRows.same _ _) (InOk.of_run (K := H_CF0a) (n := 5000) mixed H_CF0a_ok (by kernel_rfl) (L_head3_43_run b h0 h1 h2 h3))
section
variable {m c f k : Nat} (b : Bd m c f k) (h0 : ¬ vA c 512 = (0)) (h1 : vA c 1024 = (0)) (h2 : vA c 16 = (0)) (h3 : ¬ vN c 1585 = (0))
abbrev T_L_head0_44 : Tab := (RC b (e9f 4 (0) ++ (e9t 25 (0) ++ (e9t 7 (0) ++ (e9f 6 (0) ++ ([]))))) (by letI := Tab.empty; exact (allApp (e9f_ok rfl h0) (allApp (e9t_ok rfl h1) (allApp (e9t_ok rfl h2) (allApp (e9f_ok rfl h3) ibNil)))))).tab
theorem L_head0_44_run : @inRun Tryz.prog (T_L_head0_44 b h0 h1 h2 h3) H_CF0a 5000 C_head0_0 = true := (by as_aux_lemma => kernel_rfl)
end
theorem L_head0_44 {m c f k : Nat} (b : Bd m c f k) (h0 : ¬ vA c 512 = (0)) (h1 : vA c 1024 = (0)) (h2 : vA c 16 = (0)) (h3 : ¬ vN c 1585 = (0)) : @InOk Tryz.prog C_head0_0 (TB m c f k) := by
  letI : Tab := (T_L_head0_44 b h0 h1 h2 h3)
  exact InOk.tab (VRows.same _ _) (InOk.of_run (K := H_CF0a) (n := 5000) mixed H_CF0a_ok (by kernel_rfl) (L_head0_44_run b h0 h1 h2 h3))
section
variable {m c f k : Nat} (b : Bd m c f k) (h0 : ¬ vA c 512 = (0)) (h1 : vA c 1024 = (0)) (h2 : vA c 16 = (0)) (h3 : ¬ vN c 1585 = (0))
abbrev T_L_head1_45 : Tab := (RC b (e9f 4 (0) ++ (e9t 25 (0) ++ (e9t 7 (0) ++ (e9f 6 (0) ++ ([]))))) (by letI := Tab.empty; exact (allApp (e9f_ok rfl h0) (allApp (e9t_ok rfl h1) (allApp (e9t_ok rfl h2) (allApp (e9f_ok rfl h3) ibNil)))))).tab
theorem L_head1_45_run : @inRun Tryz.prog (T_L_head1_45 b h0 h1 h2 h3) H_CF0a 5000 C_head1_0 = true := (by as_aux_lemma => kernel_rfl)
end
theorem L_head1_45 {m c f k : Nat} (b : Bd m c f k) (h0 : ¬ vA c 512 = (0)) (h1 : vA c 1024 = (0)) (h2 : vA c 16 = (0)) (h3 : ¬ vN c 1585 = (0)) : @InOk Tryz.prog C_head1_0 (TB m c f k) := by
  letI : Tab := (T_L_head1_45 b h0 h1 h2 h3)
  exact InOk.tab (VRows.same _ _) (InOk.of_run (K := H_CF0a) (n := 5000) mixed H_CF0a_ok (by kernel_rfl) (L_head1_45_run b h0 h1 h2 h3))
section
variable {m c f k : Nat} (b : Bd m c f k) (h0 : ¬ vA c 512 = (0)) (h1 : vA c 1024 = (0)) (h2 : vA c 16 = (0)) (h3 : ¬ vN c 1585 = (0))
abbrev T_L_head2_46 : Tab := (RC b (e9f 4 (0) ++ (e9t 25 (0) ++ (e9t 7 (0) ++ (e9f 6 (0) ++ ([]))))) (by letI := Tab.empty; exact (allApp (e9f_ok rfl h0) (allApp (e9t_ok rfl h1) (allApp (e9t_ok rfl h2) (allApp (e9f_ok rfl h3) ibNil)))))).tab
theorem L_head2_46_run : @inRun Tryz.prog (T_L_head2_46 b h0 h1 h2 h3) H_CF0a 5000 C_head2_0 = true := (by as_aux_lemma => kernel_rfl)
end
theorem L_head2_46 {m c f k : Nat} (b : Bd m c f k) (h0 : ¬ vA c 512 = (0)) (h1 : vA c 1024 = (0)) (h2 : vA c 16 = (0)) (h3 : ¬ vN c 1585 = (0)) : @InOk Tryz.prog C_head2_0 (TB m c f k) := by
  letI : Tab := (T_L_head2_46 b h0 h1 h2 h3)
  exact InOk.tab (VRows.same _ _) (InOk.of_run (K := H_CF0a) (n := 5000) mixed H_CF0a_ok (by kernel_rfl) (L_head2_46_run b h0 h1 h2 h3))
section
variable {m c f k : Nat} (b : Bd m c f k) (h0 : ¬ vA c 512 = (0)) (h1 : vA c 1024 = (0)) (h2 : vA c 16 = (0)) (h3 : ¬ vN c 1585 = (0))
abbrev T_L_head3_47 : Tab := (RC b (e9f 4 (0) ++ (e9t 25 (0) ++ (e9t 7 (0) ++ (e9f 6 (0) ++ ([]))))) (by letI := Tab.empty; exact (allApp (e9f_ok rfl h0) (allApp (e9t_ok rfl h1) (allApp (e9t_ok rfl h2) (allApp (e9f_ok rfl h3) ibNil)))))).tab
theorem L_head3_47_run : @inRun Tryz.prog (T_L_head3_47 b h0 h1 h2 h3) H_CF0a 5000 C_head3_1 = true := (by as_aux_lemma => kernel_rfl)
end
theorem L_head3_47 {m c f k : Nat} (b : Bd m c f k) (h0 : ¬ vA c 512 = (0)) (h1 : vA c 1024 = (0)) (h2 : vA c 16 = (0)) (h3 : ¬ vN c 1585 = (0)) : @InOk Tryz.prog C_head3_1 (TB m c f k) := by
  letI : Tab := (T_L_head3_47 b h0 h1 h2 h3)
  exact InOk.tab (VRows.same _ _) (InOk.of_run (K := H_CF0a) (n := 5000) mixed H_CF0a_ok (by kernel_rfl) (L_head3_47_run b h0 h1 h2 h3))
section
variable {m c f k : Nat} (b : Bd m c f k) (h0 : ¬ vA c 512 = (0)) (h1 : ¬ vA c 1024 = (0)) (h2 : vA c 16 = (0)) (h3 : vN c 1585 = (0))
abbrev T_L_head2_48 : Tab := (RC b (e9f 4 (0) ++ (e9f 25 (0) ++ (e9t 7 (0) ++ (e9t 6 (0) ++ ([]))))) (by letI := Tab.empty; exact (allApp (e9f_ok rfl h0) (allApp (e9f_ok rfl h1) (allApp (e9t_ok rfl h2) (allApp (e9t_ok rfl h3) ibNil)))))).tab
theorem L_head2_48_run : @inRun Tryz.prog (T_L_head2_48 b h0 h1 h2 h3) H_CF0a 5000 C_head2_1 = true := (by as_aux_lemma => kernel_rfl)
end
theorem L_head2_48 {m c f k : Nat} (b : Bd m c f k) (h0 : ¬ vA c 512 = (0)) (h1 : ¬ vA c 1024 = (0)) (h2 : vA c 16 = (0)) (h3 : vN c 1585 = (0)) : @InOk Tryz.prog C_head2_1 (TB m c f k) := by
  letI : Tab := (T_L_head2_48 b h0 h1 h2 h3)
  exact InOk.tab (VRows.same _ _) (InOk.of_run (K := H_CF0a) (n := 5000) mixed H_CF0a_ok (by kernel_rfl) (L_head2_48_run b h0 h1 h2 h3))
section
variable {m c f k : Nat} (b : Bd m c f k) (h0 : ¬ vA c 512 = (0)) (h1 : ¬ vA c 1024 = (0)) (h2 : vA c 16 = (0)) (h3 : vN c 1585 = (0))
abbrev T_L_head3_49 : Tab := (RC b (e9f 4 (0) ++ (e9f 25 (0) ++ (e9t 7 (0) ++ (e9t 6 (0) ++ ([]))))) (by letI := Tab.empty; exact (allApp (e9f_ok rfl h0) (allApp (e9f_ok rfl h1) (allApp (e9t_ok rfl h2) (allApp (e9t_ok rfl h3) ibNil)))))).tab
theorem L_head3_49_run : @inRun Tryz.prog (T_L_head3_49 b h0 h1 h2 h3) H_CF0a 5000 C_head3_0 = true := (by as_aux_lemma => kernel_rfl)
end
theorem L_head3_49 {m c f k : Nat} (b : Bd m c f k) (h0 : ¬ vA c 512 = (0)) (h1 : ¬ vA c 1024 = (0)) (h2 : vA c 16 = (0)) (h3 : vN c 1585 = (0)) : @InOk Tryz.prog C_head3_0 (TB m c f k) := by
  letI : Tab := (T_L_head3_49 b h0 h1 h2 h3)
  exact InOk.tab (VRows.same _ _) (InOk.of_run (K := H_CF0a) (n := 5000) mixed H_CF0a_ok (by kernel_rfl) (L_head3_49_run b h0 h1 h2 h3))
end Go.Proofs.YtlfinnicdpiaaaaGreatDoor.cf
