/-
  Runs of Read under the flags by name.
-/
import Derived.Test.YtlfinnicdpiaaaaGreatDoorXN3
import Derived.Test.YtlfinnicdpiaaaaGreatDoorCFB
import Derived.Test.YtlfinnicdpiaaaaGreatDoorCFC
import Derived.KernelRfl
set_option linter.unusedVariables false
set_option linter.unusedSimpArgs false
set_option maxRecDepth 1000000
set_option maxHeartbeats 0
namespace Go.Proofs.YtlfinnicdpiaaaaGreatDoor.cf
open Go.X Go.RowKit
section
variable {m c f k : Nat} (b : Bd m c f k) (h1 : (f : Int) ≤ (100)) (h2 : (f : Int) > (0))
abbrev T_L_Read0_0 : Tab := (RC b (e12t 2 (100) ++ (e13t 2 (0) ++ ([]))) (by letI := Tab.empty; exact (allApp (e12t_ok rfl h1) (allApp (e13t_ok rfl h2) ibNil)))).tab
theorem L_Read0_0_run : @inRun Tryz.prog (T_L_Read0_0 b h1 h2) ((inHand C_head0_0).or H_CF0a) 5000 C_Read0_0 = true := (by as_aux_lemma => kernel_rfl)
end
theorem L_Read0_0 {m c f k : Nat} (b : Bd m c f k) (h0 : @InOk Tryz.prog C_head0_0 (TB m c f k)) (h1 : (f : Int) ≤ (100)) (h2 : (f : Int) > (0)) : @InOk Tryz.prog C_Read0_0 (TB m c f k) := by
  letI : Tab := (T_L_Read0_0 b h1 h2)
  exact InOk.tab (VRows.same _ _) (InOk.of_run (K := ((inHand C_head0_0).or H_CF0a)) (n := 5000) mixed (HandOk.or (inHand_ok (InOk.tab (VRows.same _ _) h0) (by kernel_rfl)) H_CF0a_ok) (by kernel_rfl) (L_Read0_0_run b h1 h2))
section
variable {m c f k : Nat} (b : Bd m c f k) (h1 : (f : Int) ≤ (100)) (h2 : (f : Int) > (0))
abbrev T_L_Read1_1 : Tab := (RC b (e12t 2 (100) ++ (e13t 2 (0) ++ ([]))) (by letI := Tab.empty; exact (allApp (e12t_ok rfl h1) (allApp (e13t_ok rfl h2) ibNil)))).tab
theorem L_Read1_1_run : @inRun Tryz.prog (T_L_Read1_1 b h1 h2) ((inHand C_head2_0).or H_CF0a) 5000 C_Read1_0 = true := (by as_aux_lemma => kernel_rfl)
end
theorem L_Read1_1 {m c f k : Nat} (b : Bd m c f k) (h0 : @InOk Tryz.prog C_head2_0 (TB m c f k)) (h1 : (f : Int) ≤ (100)) (h2 : (f : Int) > (0)) : @InOk Tryz.prog C_Read1_0 (TB m c f k) := by
  letI : Tab := (T_L_Read1_1 b h1 h2)
  exact InOk.tab (VRows.same _ _) (InOk.of_run (K := ((inHand C_head2_0).or H_CF0a)) (n := 5000) mixed (HandOk.or (inHand_ok (InOk.tab (VRows.same _ _) h0) (by kernel_rfl)) H_CF0a_ok) (by kernel_rfl) (L_Read1_1_run b h1 h2))
section
variable {m c f k : Nat} (b : Bd m c f k) (h1 : (f : Int) ≤ (100)) (h2 : (f : Int) > (0))
abbrev T_L_Read3_2 : Tab := (RC b (e12t 2 (100) ++ (e13t 2 (0) ++ ([]))) (by letI := Tab.empty; exact (allApp (e12t_ok rfl h1) (allApp (e13t_ok rfl h2) ibNil)))).tab
theorem L_Read3_2_run : @inRun Tryz.prog (T_L_Read3_2 b h1 h2) ((inHand C_head3_1).or H_CF0a) 5000 C_Read3_3 = true := (by as_aux_lemma => kernel_rfl)
end
theorem L_Read3_2 {m c f k : Nat} (b : Bd m c f k) (h0 : @InOk Tryz.prog C_head3_1 (TB m c f k)) (h1 : (f : Int) ≤ (100)) (h2 : (f : Int) > (0)) : @InOk Tryz.prog C_Read3_3 (TB m c f k) := by
  letI : Tab := (T_L_Read3_2 b h1 h2)
  exact InOk.tab (VRows.same _ _) (InOk.of_run (K := ((inHand C_head3_1).or H_CF0a)) (n := 5000) mixed (HandOk.or (inHand_ok (InOk.tab (VRows.same _ _) h0) (by kernel_rfl)) H_CF0a_ok) (by kernel_rfl) (L_Read3_2_run b h1 h2))
section
variable {m c f k : Nat} (b : Bd m c f k) (h1 : (f : Int) ≤ (100)) (h2 : (f : Int) > (0))
abbrev T_L_Read7_3 : Tab := (RC b (e12t 2 (100) ++ (e13t 2 (0) ++ ([]))) (by letI := Tab.empty; exact (allApp (e12t_ok rfl h1) (allApp (e13t_ok rfl h2) ibNil)))).tab
theorem L_Read7_3_run : @inRun Tryz.prog (T_L_Read7_3 b h1 h2) ((inHand C_head1_0).or H_CF0a) 5000 C_Read7_0 = true := (by as_aux_lemma => kernel_rfl)
end
theorem L_Read7_3 {m c f k : Nat} (b : Bd m c f k) (h0 : @InOk Tryz.prog C_head1_0 (TB m c f k)) (h1 : (f : Int) ≤ (100)) (h2 : (f : Int) > (0)) : @InOk Tryz.prog C_Read7_0 (TB m c f k) := by
  letI : Tab := (T_L_Read7_3 b h1 h2)
  exact InOk.tab (VRows.same _ _) (InOk.of_run (K := ((inHand C_head1_0).or H_CF0a)) (n := 5000) mixed (HandOk.or (inHand_ok (InOk.tab (VRows.same _ _) h0) (by kernel_rfl)) H_CF0a_ok) (by kernel_rfl) (L_Read7_3_run b h1 h2))
section
variable {m c f k : Nat} (b : Bd m c f k) (h1 : (f : Int) ≤ (100)) (h2 : ¬ (f : Int) > (0))
abbrev T_L_Read0_4 : Tab := (RC b (e12t 2 (100) ++ (e13f 2 (0) ++ ([]))) (by letI := Tab.empty; exact (allApp (e12t_ok rfl h1) (allApp (e13f_ok rfl h2) ibNil)))).tab
theorem L_Read0_4_run : @inRun Tryz.prog (T_L_Read0_4 b h1 h2) ((inHand C_head0_0).or H_CF0a) 5000 C_Read0_0 = true := (by as_aux_lemma => kernel_rfl)
end
theorem L_Read0_4 {m c f k : Nat} (b : Bd m c f k) (h0 : @InOk Tryz.prog C_head0_0 (TB m c f k)) (h1 : (f : Int) ≤ (100)) (h2 : ¬ (f : Int) > (0)) : @InOk Tryz.prog C_Read0_0 (TB m c f k) := by
  letI : Tab := (T_L_Read0_4 b h1 h2)
  exact InOk.tab (VRows.same _ _) (InOk.of_run (K := ((inHand C_head0_0).or H_CF0a)) (n := 5000) mixed (HandOk.or (inHand_ok (InOk.tab (VRows.same _ _) h0) (by kernel_rfl)) H_CF0a_ok) (by kernel_rfl) (L_Read0_4_run b h1 h2))
section
variable {m c f k : Nat} (b : Bd m c f k) (h1 : (f : Int) ≤ (100)) (h2 : ¬ (f : Int) > (0))
abbrev T_L_Read1_5 : Tab := (RC b (e12t 2 (100) ++ (e13f 2 (0) ++ ([]))) (by letI := Tab.empty; exact (allApp (e12t_ok rfl h1) (allApp (e13f_ok rfl h2) ibNil)))).tab
theorem L_Read1_5_run : @inRun Tryz.prog (T_L_Read1_5 b h1 h2) ((inHand C_head2_0).or H_CF0a) 5000 C_Read1_0 = true := (by as_aux_lemma => kernel_rfl)
end
theorem L_Read1_5 {m c f k : Nat} (b : Bd m c f k) (h0 : @InOk Tryz.prog C_head2_0 (TB m c f k)) (h1 : (f : Int) ≤ (100)) (h2 : ¬ (f : Int) > (0)) : @InOk Tryz.prog C_Read1_0 (TB m c f k) := by
  letI : Tab := (T_L_Read1_5 b h1 h2)
  exact InOk.tab (VRows.same _ _) (InOk.of_run (K := ((inHand C_head2_0).or H_CF0a)) (n := 5000) mixed (HandOk.or (inHand_ok (InOk.tab (VRows.same _ _) h0) (by kernel_rfl)) H_CF0a_ok) (by kernel_rfl) (L_Read1_5_run b h1 h2))
section
variable {m c f k : Nat} (b : Bd m c f k) (h1 : (f : Int) ≤ (100)) (h2 : ¬ (f : Int) > (0))
abbrev T_L_Read3_6 : Tab := (RC b (e12t 2 (100) ++ (e13f 2 (0) ++ ([]))) (by letI := Tab.empty; exact (allApp (e12t_ok rfl h1) (allApp (e13f_ok rfl h2) ibNil)))).tab
theorem L_Read3_6_run : @inRun Tryz.prog (T_L_Read3_6 b h1 h2) ((inHand C_head3_1).or H_CF0a) 5000 C_Read3_3 = true := (by as_aux_lemma => kernel_rfl)
end
theorem L_Read3_6 {m c f k : Nat} (b : Bd m c f k) (h0 : @InOk Tryz.prog C_head3_1 (TB m c f k)) (h1 : (f : Int) ≤ (100)) (h2 : ¬ (f : Int) > (0)) : @InOk Tryz.prog C_Read3_3 (TB m c f k) := by
  letI : Tab := (T_L_Read3_6 b h1 h2)
  exact InOk.tab (VRows.same _ _) (InOk.of_run (K := ((inHand C_head3_1).or H_CF0a)) (n := 5000) mixed (HandOk.or (inHand_ok (InOk.tab (VRows.same _ _) h0) (by kernel_rfl)) H_CF0a_ok) (by kernel_rfl) (L_Read3_6_run b h1 h2))
section
variable {m c f k : Nat} (b : Bd m c f k) (h1 : (f : Int) ≤ (100)) (h2 : ¬ (f : Int) > (0))
abbrev T_L_Read7_7 : Tab := (RC b (e12t 2 (100) ++ (e13f 2 (0) ++ ([]))) (by letI := Tab.empty; exact (allApp (e12t_ok rfl h1) (allApp (e13f_ok rfl h2) ibNil)))).tab
theorem L_Read7_7_run : @inRun Tryz.prog (T_L_Read7_7 b h1 h2) ((inHand C_head1_0).or H_CF0a) 5000 C_Read7_0 = true := (by as_aux_lemma => kernel_rfl)
end
theorem L_Read7_7 {m c f k : Nat} (b : Bd m c f k) (h0 : @InOk Tryz.prog C_head1_0 (TB m c f k)) (h1 : (f : Int) ≤ (100)) (h2 : ¬ (f : Int) > (0)) : @InOk Tryz.prog C_Read7_0 (TB m c f k) := by
  letI : Tab := (T_L_Read7_7 b h1 h2)
  exact InOk.tab (VRows.same _ _) (InOk.of_run (K := ((inHand C_head1_0).or H_CF0a)) (n := 5000) mixed (HandOk.or (inHand_ok (InOk.tab (VRows.same _ _) h0) (by kernel_rfl)) H_CF0a_ok) (by kernel_rfl) (L_Read7_7_run b h1 h2))
section
variable {m c f k : Nat} (b : Bd m c f k) (h1 : ¬ (f : Int) ≤ (100)) (h2 : (f : Int) > (0))
abbrev T_L_Read0_8 : Tab := (RC b (e12f 2 (100) ++ (e13t 2 (0) ++ ([]))) (by letI := Tab.empty; exact (allApp (e12f_ok rfl h1) (allApp (e13t_ok rfl h2) ibNil)))).tab
theorem L_Read0_8_run : @inRun Tryz.prog (T_L_Read0_8 b h1 h2) ((inHand C_head0_0).or H_CF0a) 5000 C_Read0_0 = true := (by as_aux_lemma => kernel_rfl)
end
theorem L_Read0_8 {m c f k : Nat} (b : Bd m c f k) (h0 : @InOk Tryz.prog C_head0_0 (TB m c f k)) (h1 : ¬ (f : Int) ≤ (100)) (h2 : (f : Int) > (0)) : @InOk Tryz.prog C_Read0_0 (TB m c f k) := by
  letI : Tab := (T_L_Read0_8 b h1 h2)
  exact InOk.tab (VRows.same _ _) (InOk.of_run (K := ((inHand C_head0_0).or H_CF0a)) (n := 5000) mixed (HandOk.or (inHand_ok (InOk.tab (VRows.same _ _) h0) (by kernel_rfl)) H_CF0a_ok) (by kernel_rfl) (L_Read0_8_run b h1 h2))
end Go.Proofs.YtlfinnicdpiaaaaGreatDoor.cf
