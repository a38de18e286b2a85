/-
  Runs of head under the flags by name.
-/
import Derived.Test.YtlfinnicdpiaaaaGreatDoorXN3
import Derived.Test.YtlfinnicdpiaaaaGreatDoorCFB
import Derived.Test.YtlfinnicdpiaaaaGreatDoorCFC
import Derived.KernelRfl
set_option linter.unusedVariables false
set_option linter.unusedSimpArgs false
set_option maxRecDepth 1000000
set_option maxHeartbeats 0
namespace Go.Proofs.YtlfinnicdpiaaaaGreatDoor.cf
open Go.X Go.RowKit
section
variable {m c f k : Nat} (b : Bd m c f k) (h0 : ¬ vA c 512 = (0)) (h1 : ¬ vA c 1024 = (0)) (h2 : vA c 16 = (0)) (h3 : vN c 1585 = (0))
abbrev T_L_head4_50 : Tab := (RC b (e9f 4 (0) ++ (e9f 25 (0) ++ (e9t 7 (0) ++ (e9t 6 (0) ++ ([]))))) (by letI := Tab.empty; exact (allApp (e9f_ok rfl h0) (allApp (e9f_ok rfl h1) (allApp (e9t_ok rfl h2) (allApp (e9t_ok rfl h3) ibNil)))))).tab
theorem L_head4_50_run : @inRun Tryz.prog (T_L_head4_50 b h0 h1 h2 h3) H_CF0a 5000 C_head4_0 = true := (by as_aux_lemma => kernel_rfl)
end
theorem L_head4_50 {m c f k : Nat} (b : Bd m c f k) (h0 : ¬ vA c 512 = (0)) (h1 : ¬ vA c 1024 = (0)) (h2 : vA c 16 = (0)) (h3 : vN c 1585 = (0)) : @InOk Tryz.prog C_head4_0 (TB m c f k) := by
  letI : Tab := (T_L_head4_50 b h0 h1 h2 h3)
  exact InOk.tab (VRows.same _ _) (InOk.of_run (K := H_CF0a) (n := 5000) mixed H_CF0a_ok (by kernel_rfl) (L_head4_50_run b h0 h1 h2 h3))
section
variable {m c f k : Nat} (b : Bd m c f k) (h0 : ¬ vA c 512 = (0)) (h1 : ¬ vA c 1024 = (0)) (h2 : vA c 16 = (0)) (h3 : vN c 1585 = (0))
abbrev T_L_head5_51 : Tab := (RC b (e9f 4 (0) ++ (e9f 25 (0) ++ (e9t 7 (0) ++ (e9t 6 (0) ++ ([]))))) (by letI := Tab.empty; exact (allApp (e9f_ok rfl h0) (allApp (e9f_ok rfl h1) (allApp (e9t_ok rfl h2) (allApp (e9t_ok rfl h3) ibNil)))))).tab
theorem L_head5_51_run : @inRun Tryz.prog (T_L_head5_51 b h0 h1 h2 h3) H_CF0a 5000 C_head5_0 = true := (by as_aux_lemma => kernel_rfl)
end
theorem L_head5_51 {m c f k : Nat} (b : Bd m c f k) (h0 : ¬ vA c 512 = (0)) (h1 : ¬ vA c 1024 = (0)) (h2 : vA c 16 = (0)) (h3 : vN c 1585 = (0)) : @InOk Tryz.prog C_head5_0 (TB m c f k) := by
  letI : Tab := (T_L_head5_51 b h0 h1 h2 h3)
  exact InOk.tab (VRows.same _ _) (InOk.of_run (K := H_CF0a) (n := 5000) mixed H_CF0a_ok (by kernel_rfl) (L_head5_51_run b h0 h1 h2 h3))
section
variable {m c f k : Nat} (b : Bd m c f k) (h0 : ¬ vA c 512 = (0)) (h1 : ¬ vA c 1024 = (0)) (h2 : vA c 16 = (0)) (h3 : vN c 1585 = (0))
abbrev T_L_head6_52 : Tab := (RC b (e9f 4 (0) ++ (e9f 25 (0) ++ (e9t 7 (0) ++ (e9t 6 (0) ++ ([]))))) (by letI := Tab.empty; exact (allApp (e9f_ok rfl h0) (allApp (e9f_ok rfl h1) (allApp (e9t_ok rfl h2) (allApp (e9t_ok rfl h3) ibNil)))))).tab
theorem L_head6_52_run : @inRun Tryz.prog (T_L_head6_52 b h0 h1 h2 h3) H_CF0a 5000 C_head6_0 = true := (by as_aux_lemma => kernel_rfl)
end
theorem L_head6_52 {m c f k : Nat} (b : Bd m c f k) (h0 : ¬ vA c 512 = (0)) (h1 : ¬ vA c 1024 = (0)) (h2 : vA c 16 = (0)) (h3 : vN c 1585 = (0)) : @InOk Tryz.prog C_head6_0 (TB m c f k) := by
  letI : Tab := (T_L_head6_52 b h0 h1 h2 h3)
  exact InOk.tab (VRows.same _ _) (InOk.of_run (K := H_CF0a) (n := 5000) mixed H_CF0a_ok (by kernel_rfl) (L_head6_52_run b h0 h1 h2 h3))
section
variable {m c f k : Nat} (b : Bd m c f k) (h0 : ¬ vA c 512 = (0)) (h1 : ¬ vA c 1024 = (0)) (h2 : vA c 16 = (0)) (h3 : vN c 1585 = (0))
abbrev T_L_head7_53 : Tab := (RC b (e9f 4 (0) ++ (e9f 25 (0) ++ (e9t 7 (0) ++ (e9t 6 (0) ++ ([]))))) (by letI := Tab.empty; exact (allApp (e9f_ok rfl h0) (allApp (e9f_ok rfl h1) (allApp (e9t_ok rfl h2) (allApp (e9t_ok rfl h3) ibNil)))))).tab
theorem L_head7_53_run : @inRun Tryz.prog (T_L_head7_53 b h0 h1 h2 h3) H_CF0a 5000 C_head7_0 = true := (by as_aux_lemma => kernel_rfl)
end
theorem L_head7_53 {m c f k : Nat} (b : Bd m c f k) (h0 : ¬ vA c 512 = (0)) (h1 : ¬ vA c 1024 = (0)) (h2 : vA c 16 = (0)) (h3 : vN c 1585 = (0)) : @InOk Tryz.prog C_head7_0 (TB m c f k) := by
  letI : Tab := (T_L_head7_53 b h0 h1 h2 h3)
  exact InOk.tab (VRows.same _ _) (InOk.of_run (K := H_CF0a) (n := 5000) mixed H_CF0a_ok (by kernel_rfl) (L_head7_53_run b h0 h1 h2 h3))
section
variable {m c f k : Nat} (b : Bd m c f k) (h0 : ¬ vA c 512 = (0)) (h1 : ¬ vA c 1024 = (0)) (h2 : vA c 16 = (0)) (h3 : vN c 1585 = (0))
abbrev T_L_head8_54 : Tab := (RC b (e9f 4 (0) ++ (e9f 25 (0) ++ (e9t 7 (0) ++ (e9t 6 (0) ++ ([]))))) (by letI := Tab.empty; exact (allApp (e9f_ok rfl h0) (allApp (e9f_ok rfl h1) (allApp (e9t_ok rfl h2) (allApp (e9t_ok rfl h3) ibNil)))))).tab
theorem L_head8_54_run : @inRun Tryz.prog (T_L_head8_54 b h0 h1 h2 h3) H_CF0a 5000 C_head8_0 = true := (by as_aux_lemma => kernel_rfl)
end
theorem L_head8_54 {m c f k : Nat} (b : Bd m c f k) (h0 : ¬ vA c 512 = (0)) (h1 : ¬ vA c 1024 = (0)) (h2 : vA c 16 = (0)) (h3 : vN c 1585 = (0)) : @InOk Tryz.prog C_head8_0 (TB m c f k) := by
  letI : Tab := (T_L_head8_54 b h0 h1 h2 h3)
  exact InOk.tab (VRows.same _ _) (InOk.of_run (K := H_CF0a) (n := 5000) mixed H_CF0a_ok (by kernel_rfl) (L_head8_54_run b h0 h1 h2 h3))
section
variable {m c f k : Nat} (b : Bd m c f k) (h0 : vA c 512 = (0)) (h1 : ¬ vA c 1024 = (0)) (h2 : vA c 16 = (0)) (h3 : vN c 1585 = (0))
abbrev T_L_head2_55 : Tab := (RC b (e9t 4 (0) ++ (e9f 25 (0) ++ (e9t 7 (0) ++ (e9t 6 (0) ++ ([]))))) (by letI := Tab.empty; exact (allApp (e9t_ok rfl h0) (allApp (e9f_ok rfl h1) (allApp (e9t_ok rfl h2) (allApp (e9t_ok rfl h3) ibNil)))))).tab
theorem L_head2_55_run : @inRun Tryz.prog (T_L_head2_55 b h0 h1 h2 h3) H_CF0a 5000 C_head2_1 = true := (by as_aux_lemma => kernel_rfl)
end
theorem L_head2_55 {m c f k : Nat} (b : Bd m c f k) (h0 : vA c 512 = (0)) (h1 : ¬ vA c 1024 = (0)) (h2 : vA c 16 = (0)) (h3 : vN c 1585 = (0)) : @InOk Tryz.prog C_head2_1 (TB m c f k) := by
  letI : Tab := (T_L_head2_55 b h0 h1 h2 h3)
  exact InOk.tab (VRows.same _ _) (InOk.of_run (K := H_CF0a) (n := 5000) mixed H_CF0a_ok (by kernel_rfl) (L_head2_55_run b h0 h1 h2 h3))
section
variable {m c f k : Nat} (b : Bd m c f k) (h0 : vA c 512 = (0)) (h1 : ¬ vA c 1024 = (0)) (h2 : vA c 16 = (0)) (h3 : vN c 1585 = (0))
abbrev T_L_head3_56 : Tab := (RC b (e9t 4 (0) ++ (e9f 25 (0) ++ (e9t 7 (0) ++ (e9t 6 (0) ++ ([]))))) (by letI := Tab.empty; exact (allApp (e9t_ok rfl h0) (allApp (e9f_ok rfl h1) (allApp (e9t_ok rfl h2) (allApp (e9t_ok rfl h3) ibNil)))))).tab
theorem L_head3_56_run : @inRun Tryz.prog (T_L_head3_56 b h0 h1 h2 h3) H_CF0a 5000 C_head3_0 = true := (by as_aux_lemma => kernel_rfl)
end
theorem L_head3_56 {m c f k : Nat} (b : Bd m c f k) (h0 : vA c 512 = (0)) (h1 : ¬ vA c 1024 = (0)) (h2 : vA c 16 = (0)) (h3 : vN c 1585 = (0)) : @InOk Tryz.prog C_head3_0 (TB m c f k) := by
  letI : Tab := (T_L_head3_56 b h0 h1 h2 h3)
  exact InOk.tab (VRows.same _ _) (InOk.of_run (K := H_CF0a) (n := 5000) mixed H_CF0a_ok (by kernel_rfl) (L_head3_56_run b h0 h1 h2 h3))
section
variable {m c f k : Nat} (b : Bd m c f k) (h0 : vA c 512 = (0)) (h1 : ¬ vA c 1024 = (0)) (h2 : vA c 16 = (0)) (h3 : vN c 1585 = (0))
abbrev T_L_head4_57 : Tab := (RC b (e9t 4 (0) ++ (e9f 25 (0) ++ (e9t 7 (0) ++ (e9t 6 (0) ++ ([]))))) (by letI := Tab.empty; exact (allApp (e9t_ok rfl h0) (allApp (e9f_ok rfl h1) (allApp (e9t_ok rfl h2) (allApp (e9t_ok rfl h3) ibNil)))))).tab
theorem L_head4_57_run : @inRun Tryz.prog (T_L_head4_57 b h0 h1 h2 h3) H_CF0a 5000 C_head4_0 = true := (by as_aux_lemma => kernel_rfl)
end
theorem L_head4_57 {m c f k : Nat} (b : Bd m c f k) (h0 : vA c 512 = (0)) (h1 : ¬ vA c 1024 = (0)) (h2 : vA c 16 = (0)) (h3 : vN c 1585 = (0)) : @InOk Tryz.prog C_head4_0 (TB m c f k) := by
  letI : Tab := (T_L_head4_57 b h0 h1 h2 h3)
  exact InOk.tab (VRows.same _ _) (InOk.of_run (K := H_CF0a) (n := 5000) mixed H_CF0a_ok (by kernel_rfl) (L_head4_57_run b h0 h1 h2 h3))
section
variable {m c f k : Nat} (b : Bd m c f k) (h0 : vA c 512 = (0)) (h1 : ¬ vA c 1024 = (0)) (h2 : vA c 16 = (0)) (h3 : vN c 1585 = (0))
abbrev T_L_head5_58 : Tab := (RC b (e9t 4 (0) ++ (e9f 25 (0) ++ (e9t 7 (0) ++ (e9t 6 (0) ++ ([]))))) (by letI := Tab.empty; exact (allApp (e9t_ok rfl h0) (allApp (e9f_ok rfl h1) (allApp (e9t_ok rfl h2) (allApp (e9t_ok rfl h3) ibNil)))))).tab
theorem L_head5_58_run : @inRun Tryz.prog (T_L_head5_58 b h0 h1 h2 h3) H_CF0a 5000 C_head5_0 = true := (by as_aux_lemma => kernel_rfl)
end
theorem L_head5_58 {m c f k : Nat} (b : Bd m c f k) (h0 : vA c 512 = (0)) (h1 : ¬ vA c 1024 = (0)) (h2 : vA c 16 = (0)) (h3 : vN c 1585 = (0)) : @InOk Tryz.prog C_head5_0 (TB m c f k) := by
  letI : Tab := (T_L_head5_58 b h0 h1 h2 h3)
  exact InOk.tab (VRows.same _ _) (InOk.of_run (K := H_CF0a) (n := 5000) mixed H_CF0a_ok (by kernel_rfl) (L_head5_58_run b h0 h1 h2 h3))
section
variable {m c f k : Nat} (b : Bd m c f k) (h0 : vA c 512 = (0)) (h1 : ¬ vA c 1024 = (0)) (h2 : vA c 16 = (0)) (h3 : vN c 1585 = (0))
abbrev T_L_head6_59 : Tab := (RC b (e9t 4 (0) ++ (e9f 25 (0) ++ (e9t 7 (0) ++ (e9t 6 (0) ++ ([]))))) (by letI := Tab.empty; exact (allApp (e9t_ok rfl h0) (allApp (e9f_ok rfl h1) (allApp (e9t_ok rfl h2) (allApp (e9t_ok rfl h3) ibNil)))))).tab
theorem L_head6_59_run : @inRun Tryz.prog (T_L_head6_59 b h0 h1 h2 h3) H_CF0a 5000 C_head6_0 = true := (by as_aux_lemma => kernel_rfl)
end
theorem L_head6_59 {m c f k : Nat} (b : Bd m c f k) (h0 : vA c 512 = (0)) (h1 : ¬ vA c 1024 = (0)) (h2 : vA c 16 = (0)) (h3 : vN c 1585 = (0)) : @InOk Tryz.prog C_head6_0 (TB m c f k) := by
  letI : Tab := (T_L_head6_59 b h0 h1 h2 h3)
  exact InOk.tab (VRows.same _ _) (InOk.of_run (K := H_CF0a) (n := 5000) mixed H_CF0a_ok (by kernel_rfl) (L_head6_59_run b h0 h1 h2 h3))
section
variable {m c f k : Nat} (b : Bd m c f k) (h0 : vA c 512 = (0)) (h1 : ¬ vA c 1024 = (0)) (h2 : vA c 16 = (0)) (h3 : vN c 1585 = (0))
abbrev T_L_head7_60 : Tab := (RC b (e9t 4 (0) ++ (e9f 25 (0) ++ (e9t 7 (0) ++ (e9t 6 (0) ++ ([]))))) (by letI := Tab.empty; exact (allApp (e9t_ok rfl h0) (allApp (e9f_ok rfl h1) (allApp (e9t_ok rfl h2) (allApp (e9t_ok rfl h3) ibNil)))))).tab
theorem L_head7_60_run : @inRun Tryz.prog (T_L_head7_60 b h0 h1 h2 h3) H_CF0a 5000 C_head7_0 = true := (by as_aux_lemma => kernel_rfl)
end
theorem L_head7_60 {m c f k : Nat} (b : Bd m c f k) (h0 : vA c 512 = (0)) (h1 : ¬ vA c 1024 = (0)) (h2 : vA c 16 = (0)) (h3 : vN c 1585 = (0)) : @InOk Tryz.prog C_head7_0 (TB m c f k) := by
  letI : Tab := (T_L_head7_60 b h0 h1 h2 h3)
  exact InOk.tab (VRows.same _ _) (InOk.of_run (K := H_CF0a) (n := 5000) mixed H_CF0a_ok (by kernel_rfl) (L_head7_60_run b h0 h1 h2 h3))
section
variable {m c f k : Nat} (b : Bd m c f k) (h0 : vA c 512 = (0)) (h1 : ¬ vA c 1024 = (0)) (h2 : vA c 16 = (0)) (h3 : vN c 1585 = (0))
abbrev T_L_head8_61 : Tab := (RC b (e9t 4 (0) ++ (e9f 25 (0) ++ (e9t 7 (0) ++ (e9t 6 (0) ++ ([]))))) (by letI := Tab.empty; exact (allApp (e9t_ok rfl h0) (allApp (e9f_ok rfl h1) (allApp (e9t_ok rfl h2) (allApp (e9t_ok rfl h3) ibNil)))))).tab
theorem L_head8_61_run : @inRun Tryz.prog (T_L_head8_61 b h0 h1 h2 h3) H_CF0a 5000 C_head8_0 = true := (by as_aux_lemma => kernel_rfl)
end
theorem L_head8_61 {m c f k : Nat} (b : Bd m c f k) (h0 : vA c 512 = (0)) (h1 : ¬ vA c 1024 = (0)) (h2 : vA c 16 = (0)) (h3 : vN c 1585 = (0)) : @InOk Tryz.prog C_head8_0 (TB m c f k) := by
  letI : Tab := (T_L_head8_61 b h0 h1 h2 h3)
  exact InOk.tab (VRows.same _ _) (InOk.of_run (K := H_CF0a) (n := 5000) mixed H_CF0a_ok (by kernel_rfl) (L_head8_61_run b h0 h1 h2 h3))
section
variable {m c f k : Nat} (b : Bd m c f k) (h0 : vA c 512 = (0)) (h1 : vA c 1024 = (0)) (h2 : ¬ vA c 16 = (0)) (h3 : vN c 1585 = (0))
abbrev T_L_head2_62 : Tab := (RC b (e9t 4 (0) ++ (e9t 25 (0) ++ (e9f 7 (0) ++ (e9t 6 (0) ++ ([]))))) (by letI := Tab.empty; exact (allApp (e9t_ok rfl h0) (allApp (e9t_ok rfl h1) (allApp (e9f_ok rfl h2) (allApp (e9t_ok rfl h3) ibNil)))))).tab
theorem L_head2_62_run : @inRun Tryz.prog (T_L_head2_62 b h0 h1 h2 h3) H_CF0a 5000 C_head2_1 = true := (by as_aux_lemma => kernel_rfl)
end
theorem L_head2_62 {m c f k : Nat} (b : Bd m c f k) (h0 : vA c 512 = (0)) (h1 : vA c 1024 = (0)) (h2 : ¬ vA c 16 = (0)) (h3 : vN c 1585 = (0)) : @InOk Tryz.prog C_head2_1 (TB m c f k) := by
  letI : Tab := (T_L_head2_62 b h0 h1 h2 h3)
  exact InOk.tab (VRows.same _ _) (InOk.of_run (K := H_CF0a) (n := 5000) mixed H_CF0a_ok (by kernel_rfl) (L_head2_62_run b h0 h1 h2 h3))
section
variable {m c f k : Nat} (b : Bd m c f k) (h0 : vA c 512 = (0)) (h1 : vA c 1024 = (0)) (h2 : ¬ vA c 16 = (0)) (h3 : vN c 1585 = (0))
abbrev T_L_head3_63 : Tab := (RC b (e9t 4 (0) ++ (e9t 25 (0) ++ (e9f 7 (0) ++ (e9t 6 (0) ++ ([]))))) (by letI := Tab.empty; exact (allApp (e9t_ok rfl h0) (allApp (e9t_ok rfl h1) (allApp (e9f_ok rfl h2) (allApp (e9t_ok rfl h3) ibNil)))))).tab
theorem L_head3_63_run : @inRun Tryz.prog (T_L_head3_63 b h0 h1 h2 h3) H_CF0a 5000 C_head3_0 = true := (by as_aux_lemma => kernel_rfl)
end
theorem L_head3_63 {m c f k : Nat} (b : Bd m c f k) (h0 : vA c 512 = (0)) (h1 : vA c 1024 = (0)) (h2 : ¬ vA c 16 = (0)) (h3 : vN c 1585 = (0)) : @InOk Tryz.prog C_head3_0 (TB m c f k) := by
  letI : Tab := (T_L_head3_63 b h0 h1 h2 h3)
  exact InOk.tab (VRows.same _ _) (InOk.of_run (K := H_CF0a) (n := 5000) mixed H_CF0a_ok (by kernel_rfl) (L_head3_63_run b h0 h1 h2 h3))
section
variable {m c f k : Nat} (b : Bd m c f k) (h0 : vA c 512 = (0)) (h1 : vA c 1024 = (0)) (h2 : ¬ vA c 16 = (0)) (h3 : vN c 1585 = (0))
abbrev T_L_head4_64 : Tab := (RC b (e9t 4 (0) ++ (e9t 25 (0) ++ (e9f 7 (0) ++ (e9t 6 (0) ++ ([]))))) (by letI := Tab.empty; exact (allApp (e9t_ok rfl h0) (allApp (e9t_ok rfl h1) (allApp (e9f_ok rfl h2) (allApp (e9t_ok rfl h3) ibNil)))))).tab
theorem L_head4_64_run : @inRun Tryz.prog (T_L_head4_64 b h0 h1 h2 h3) H_CF0a 5000 C_head4_0 = true := (by as_aux_lemma => kernel_rfl)
end
theorem L_head4_64 {m c f k : Nat} (b : Bd m c f k) (h0 : vA c 512 = (0)) (h1 : vA c 1024 = (0)) (h2 : ¬ vA c 16 = (0)) (h3 : vN c 1585 = (0)) : @InOk Tryz.prog C_head4_0 (TB m c f k) := by
  letI : Tab := (T_L_head4_64 b h0 h1 h2 h3)
  exact InOk.tab (VRows.same _ _) (InOk.of_run (K := H_CF0a) (n := 5000) mixed H_CF0a_ok (by kernel_rfl) (L_head4_64_run b h0 h1 h2 h3))
section
variable {m c f k : Nat} (b : Bd m c f k) (h0 : vA c 512 = (0)) (h1 : vA c 1024 = (0)) (h2 : ¬ vA c 16 = (0)) (h3 : vN c 1585 = (0))
abbrev T_L_head5_65 : Tab := (RC b (e9t 4 (0) ++ (e9t 25 (0) ++ (e9f 7 (0) ++ (e9t 6 (0) ++ ([]))))) (by letI := Tab.empty; exact (allApp (e9t_ok rfl h0) (allApp (e9t_ok rfl h1) (allApp (e9f_ok rfl h2) (allApp (e9t_ok rfl h3) ibNil)))))).tab
theorem L_head5_65_run : @inRun Tryz.prog (T_L_head5_65 b h0 h1 h2 h3) H_CF0a 5000 C_head5_0 = true := (by as_aux_lemma => kernel_rfl)
end
theorem L_head5_65 {m c f k : Nat} (b : Bd m c f k) (h0 : vA c 512 = (0)) (h1 : vA c 1024 = (0)) (h2 : ¬ vA c 16 = (0)) (h3 : vN c 1585 = (0)) : @InOk Tryz.prog C_head5_0 (TB m c f k) := by
  letI : Tab := (T_L_head5_65 b h0 h1 h2 h3)
  exact InOk.tab (VRows.same _ _) (InOk.of_run (K := H_CF0a) (n := 5000) mixed H_CF0a_ok (by kernel_rfl) (L_head5_65_run b h0 h1 h2 h3))
section
variable {m c f k : Nat} (b : Bd m c f k) (h0 : vA c 512 = (0)) (h1 : vA c 1024 = (0)) (h2 : ¬ vA c 16 = (0)) (h3 : vN c 1585 = (0))
abbrev T_L_head6_66 : Tab := (RC b (e9t 4 (0) ++ (e9t 25 (0) ++ (e9f 7 (0) ++ (e9t 6 (0) ++ ([]))))) (by letI := Tab.empty; exact (allApp (e9t_ok rfl h0) (allApp (e9t_ok rfl h1) (allApp (e9f_ok rfl h2) (allApp (e9t_ok rfl h3) ibNil)))))).tab
theorem L_head6_66_run : @inRun Tryz.prog (T_L_head6_66 b h0 h1 h2 h3) H_CF0a 5000 C_head6_0 = true := (by as_aux_lemma => kernel_rfl)
end
theorem L_head6_66 {m c f k : Nat} (b : Bd m c f k) (h0 : vA c 512 = (0)) (h1 : vA c 1024 = (0)) (h2 : ¬ vA c 16 = (0)) (h3 : vN c 1585 = (0)) : @InOk Tryz.prog C_head6_0 (TB m c f k) := by
  letI : Tab := (T_L_head6_66 b h0 h1 h2 h3)
  exact InOk.tab (VRows.same _ _) (InOk.of_run (K := H_CF0a) (n := 5000) mixed H_CF0a_ok (by kernel_rfl) (L_head6_66_run b h0 h1 h2 h3))
section
variable {m c f k : Nat} (b : Bd m c f k) (h0 : vA c 512 = (0)) (h1 : vA c 1024 = (0)) (h2 : ¬ vA c 16 = (0)) (h3 : vN c 1585 = (0))
abbrev T_L_head7_67 : Tab := (RC b (e9t 4 (0) ++ (e9t 25 (0) ++ (e9f 7 (0) ++ (e9t 6 (0) ++ ([]))))) (by letI := Tab.empty; exact (allApp (e9t_ok rfl h0) (allApp (e9t_ok rfl h1) (allApp (e9f_ok rfl h2) (allApp (e9t_ok rfl h3) ibNil)))))).tab
theorem L_head7_67_run : @inRun Tryz.prog (T_L_head7_67 b h0 h1 h2 h3) H_CF0a 5000 C_head7_0 = true := (by as_aux_lemma => kernel_rfl)
end
theorem L_head7_67 {m c f k : Nat} (b : Bd m c f k) (h0 : vA c 512 = (0)) (h1 : vA c 1024 = (0)) (h2 : ¬ vA c 16 = (0)) (h3 : vN c 1585 = (0)) : @InOk Tryz.prog C_head7_0 (TB m c f k) := by
  letI : Tab := (T_L_head7_67 b h0 h1 h2 h3)
  exact InOk.tab (VRows.same _ _) (InOk.of_run (K := H_CF0a) (n := 5000) mixed H_CF0a_ok (by kernel_rfl) (L_head7_67_run b h0 h1 h2 h3))
section
variable {m c f k : Nat} (b : Bd m c f k) (h0 : vA c 512 = (0)) (h1 : vA c 1024 = (0)) (h2 : ¬ vA c 16 = (0)) (h3 : vN c 1585 = (0))
abbrev T_L_head8_68 : Tab := (RC b (e9t 4 (0) ++ (e9t 25 (0) ++ (e9f 7 (0) ++ (e9t 6 (0) ++ ([]))))) (by letI := Tab.empty; exact (allApp (e9t_ok rfl h0) (allApp (e9t_ok rfl h1) (allApp (e9f_ok rfl h2) (allApp (e9t_ok rfl h3) ibNil)))))).tab
theorem L_head8_68_run : @inRun Tryz.prog (T_L_head8_68 b h0 h1 h2 h3) H_CF0a 5000 C_head8_0 = true := (by as_aux_lemma => kernel_rfl)
end
theorem L_head8_68 {m c f k : Nat} (b : Bd m c f k) (h0 : vA c 512 = (0)) (h1 : vA c 1024 = (0)) (h2 : ¬ vA c 16 = (0)) (h3 : vN c 1585 = (0)) : @InOk Tryz.prog C_head8_0 (TB m c f k) := by
  letI : Tab := (T_L_head8_68 b h0 h1 h2 h3)
  exact InOk.tab (VRows.same _ _) (InOk.of_run (K := H_CF0a) (n := 5000) mixed H_CF0a_ok (by kernel_rfl) (L_head8_68_run b h0 h1 h2 h3))
section
variable {m c f k : Nat} (b : Bd m c f k) (h0 : vA c 512 = (0)) (h1 : vA c 1024 = (0)) (h2 : vA c 16 = (0)) (h3 : vN c 1585 = (0))
abbrev T_L_head2_69 : Tab := (RC b (e9t 4 (0) ++ (e9t 25 (0) ++ (e9t 7 (0) ++ (e9t 6 (0) ++ ([]))))) (by letI := Tab.empty; exact (allApp (e9t_ok rfl h0) (allApp (e9t_ok rfl h1) (allApp (e9t_ok rfl h2) (allApp (e9t_ok rfl h3) ibNil)))))).tab
theorem L_head2_69_run : @inRun Tryz.prog (T_L_head2_69 b h0 h1 h2 h3) H_CF0a 5000 C_head2_1 = true := (by as_aux_lemma => kernel_rfl)
end
theorem L_head2_69 {m c f k : Nat} (b : Bd m c f k) (h0 : vA c 512 = (0)) (h1 : vA c 1024 = (0)) (h2 : vA c 16 = (0)) (h3 : vN c 1585 = (0)) : @InOk Tryz.prog C_head2_1 (TB m c f k) := by
  letI : Tab := (T_L_head2_69 b h0 h1 h2 h3)
  exact InOk.tab (VRows.same _ _) (InOk.of_run (K := H_CF0a) (n := 5000) mixed H_CF0a_ok (by kernel_rfl) (L_head2_69_run b h0 h1 h2 h3))
section
variable {m c f k : Nat} (b : Bd m c f k) (h0 : vA c 512 = (0)) (h1 : vA c 1024 = (0)) (h2 : vA c 16 = (0)) (h3 : vN c 1585 = (0))
abbrev T_L_head3_70 : Tab := (RC b (e9t 4 (0) ++ (e9t 25 (0) ++ (e9t 7 (0) ++ (e9t 6 (0) ++ ([]))))) (by letI := Tab.empty; exact (allApp (e9t_ok rfl h0) (allApp (e9t_ok rfl h1) (allApp (e9t_ok rfl h2) (allApp (e9t_ok rfl h3) ibNil)))))).tab
theorem L_head3_70_run : @inRun Tryz.prog (T_L_head3_70 b h0 h1 h2 h3) H_CF0a 5000 C_head3_0 = true := (by as_aux_lemma => kernel_rfl)
end
theorem L_head3_70 {m c f k : Nat} (b : Bd m c f k) (h0 : vA c 512 = (0)) (h1 : vA c 1024 = (0)) (h2 : vA c 16 = (0)) (h3 : vN c 1585 = (0)) : @InOk Tryz.prog C_head3_0 (TB m c f k) := by
  letI : Tab := (T_L_head3_70 b h0 h1 h2 h3)
  exact InOk.tab (VRows.same _ _) (InOk.of_run (K := H_CF0a) (n := 5000) mixed H_CF0a_ok (by kernel_rfl) (L_head3_70_run b h0 h1 h2 h3))
section
variable {m c f k : Nat} (b : Bd m c f k) (h0 : vA c 512 = (0)) (h1 : vA c 1024 = (0)) (h2 : vA c 16 = (0)) (h3 : vN c 1585 = (0))
abbrev T_L_head4_71 : Tab := (RC b (e9t 4 (0) ++ (e9t 25 (0) ++ (e9t 7 (0) ++ (e9t 6 (0) ++ ([]))))) (by letI := Tab.empty; exact (allApp (e9t_ok rfl h0) (allApp (e9t_ok rfl h1) (allApp (e9t_ok rfl h2) (allApp (e9t_ok rfl h3) ibNil)))))).tab
theorem L_head4_71_run : @inRun Tryz.prog (T_L_head4_71 b h0 h1 h2 h3) H_CF0a 5000 C_head4_0 = true := (by as_aux_lemma => kernel_rfl)
end
theorem L_head4_71 {m c f k : Nat} (b : Bd m c f k) (h0 : vA c 512 = (0)) (h1 : vA c 1024 = (0)) (h2 : vA c 16 = (0)) (h3 : vN c 1585 = (0)) : @InOk Tryz.prog C_head4_0 (TB m c f k) := by
  letI : Tab := (T_L_head4_71 b h0 h1 h2 h3)
  exact InOk.tab (VRows.same _ _) (InOk.of_run (K := H_CF0a) (n := 5000) mixed H_CF0a_ok (by kernel_rfl) (L_head4_71_run b h0 h1 h2 h3))
section
variable {m c f k : Nat} (b : Bd m c f k) (h0 : vA c 512 = (0)) (h1 : vA c 1024 = (0)) (h2 : vA c 16 = (0)) (h3 : vN c 1585 = (0))
abbrev T_L_head5_72 : Tab := (RC b (e9t 4 (0) ++ (e9t 25 (0) ++ (e9t 7 (0) ++ (e9t 6 (0) ++ ([]))))) (by letI := Tab.empty; exact (allApp (e9t_ok rfl h0) (allApp (e9t_ok rfl h1) (allApp (e9t_ok rfl h2) (allApp (e9t_ok rfl h3) ibNil)))))).tab
theorem L_head5_72_run : @inRun Tryz.prog (T_L_head5_72 b h0 h1 h2 h3) H_CF0a 5000 C_head5_0 = true := (by as_aux_lemma => kernel_rfl)
end
theorem L_head5_72 {m c f k : Nat} (b : Bd m c f k) (h0 : vA c 512 = (0)) (h1 : vA c 1024 = (0)) (h2 : vA c 16 = (0)) (h3 : vN c 1585 = (0)) : @InOk Tryz.prog C_head5_0 (TB m c f k) := by
  letI : Tab := (T_L_head5_72 b h0 h1 h2 h3)
  exact InOk.tab (VRows.same _ _) (InOk.of_run (K := H_CF0a) (n := 5000) mixed H_CF0a_ok (by kernel_rfl) (L_head5_72_run b h0 h1 h2 h3))
section
variable {m c f k : Nat} (b : Bd m c f k) (h0 : vA c 512 = (0)) (h1 : vA c 1024 = (0)) (h2 : vA c 16 = (0)) (h3 : vN c 1585 = (0))
abbrev T_L_head6_73 : Tab := (RC b (e9t 4 (0) ++ (e9t 25 (0) ++ (e9t 7 (0) ++ (e9t 6 (0) ++ ([]))))) (by letI := Tab.empty; exact (allApp (e9t_ok rfl h0) (allApp (e9t_ok rfl h1) (allApp (e9t_ok rfl h2) (allApp (e9t_ok rfl h3) ibNil)))))).tab
theorem L_head6_73_run : @inRun Tryz.prog (T_L_head6_73 b h0 h1 h2 h3) H_CF0a 5000 C_head6_0 = true := (by as_aux_lemma => kernel_rfl)
end
theorem L_head6_73 {m c f k : Nat} (b : Bd m c f k) (h0 : vA c 512 = (0)) (h1 : vA c 1024 = (0)) (h2 : vA c 16 = (0)) (h3 : vN c 1585 = (0)) : @InOk Tryz.prog C_head6_0 (TB m c f k) := by
  letI : Tab := (T_L_head6_73 b h0 h1 h2 h3)
  exact InOk.tab (VRows.same _ _) (InOk.of_run (K := H_CF0a) (n := 5000) mixed H_CF0a_ok (by kernel_rfl) (L_head6_73_run b h0 h1 h2 h3))
section
variable {m c f k : Nat} (b : Bd m c f k) (h0 : vA c 512 = (0)) (h1 : vA c 1024 = (0)) (h2 : vA c 16 = (0)) (h3 : vN c 1585 = (0))
abbrev T_L_head7_74 : Tab := (RC b (e9t 4 (0) ++ (e9t 25 (0) ++ (e9t 7 (0) ++ (e9t 6 (0) ++ ([]))))) (by letI := Tab.empty; exact (allApp (e9t_ok rfl h0) (allApp (e9t_ok rfl h1) (allApp (e9t_ok rfl h2) (allApp (e9t_ok rfl h3) ibNil)))))).tab
theorem L_head7_74_run : @inRun Tryz.prog (T_L_head7_74 b h0 h1 h2 h3) H_CF0a 5000 C_head7_0 = true := (by as_aux_lemma => kernel_rfl)
end
theorem L_head7_74 {m c f k : Nat} (b : Bd m c f k) (h0 : vA c 512 = (0)) (h1 : vA c 1024 = (0)) (h2 : vA c 16 = (0)) (h3 : vN c 1585 = (0)) : @InOk Tryz.prog C_head7_0 (TB m c f k) := by
  letI : Tab := (T_L_head7_74 b h0 h1 h2 h3)
  exact InOk.tab (VRows.same _ _) (InOk.of_run (K := H_CF0a) (n := 5000) mixed H_CF0a_ok (by kernel_rfl) (L_head7_74_run b h0 h1 h2 h3))
section
variable {m c f k : Nat} (b : Bd m c f k) (h0 : vA c 512 = (0)) (h1 : vA c 1024 = (0)) (h2 : vA c 16 = (0)) (h3 : vN c 1585 = (0))
abbrev T_L_head8_75 : Tab := (RC b (e9t 4 (0) ++ (e9t 25 (0) ++ (e9t 7 (0) ++ (e9t 6 (0) ++ ([]))))) (by letI := Tab.empty; exact (allApp (e9t_ok rfl h0) (allApp (e9t_ok rfl h1) (allApp (e9t_ok rfl h2) (allApp (e9t_ok rfl h3) ibNil)))))).tab
theorem L_head8_75_run : @inRun Tryz.prog (T_L_head8_75 b h0 h1 h2 h3) H_CF0a 5000 C_head8_0 = true := (by as_aux_lemma => kernel_rfl)
end
theorem L_head8_75 {m c f k : Nat} (b : Bd m c f k) (h0 : vA c 512 = (0)) (h1 : vA c 1024 = (0)) (h2 : vA c 16 = (0)) (h3 : vN c 1585 = (0)) : @InOk Tryz.prog C_head8_0 (TB m c f k) := by
  letI : Tab := (T_L_head8_75 b h0 h1 h2 h3)
  exact InOk.tab (VRows.same _ _) (InOk.of_run (K := H_CF0a) (n := 5000) mixed H_CF0a_ok (by kernel_rfl) (L_head8_75_run b h0 h1 h2 h3))
end Go.Proofs.YtlfinnicdpiaaaaGreatDoor.cf
