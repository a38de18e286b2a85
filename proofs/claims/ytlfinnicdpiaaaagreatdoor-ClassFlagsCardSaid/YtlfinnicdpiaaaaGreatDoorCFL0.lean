/-
  Runs of law under the flags by name.
-/
import Derived.Test.YtlfinnicdpiaaaaGreatDoorXN3
import Derived.Test.YtlfinnicdpiaaaaGreatDoorCFB
import Derived.Test.YtlfinnicdpiaaaaGreatDoorCFC
import Derived.KernelRfl
set_option linter.unusedVariables false
set_option linter.unusedSimpArgs false
set_option maxRecDepth 1000000
set_option maxHeartbeats 0
namespace Go.Proofs.YtlfinnicdpiaaaaGreatDoor.cf
open Go.X Go.RowKit
section
variable {m c f k : Nat} (b : Bd m c f k) (h0 : ¬ vA c 512 = (0)) (h1 : vA k 1024 = (0)) (h2 : ¬ vN c 1585 = (0))
abbrev T_L_law_0 : Tab := (RC b (e9f 4 (0) ++ (e9t 5 (0) ++ (e9f 6 (0) ++ ([])))) (by letI := Tab.empty; exact (allApp (e9f_ok rfl h0) (allApp (e9t_ok rfl h1) (allApp (e9f_ok rfl h2) ibNil))))).tab
theorem L_law_0_run : okTrue (@call (T_L_law_0 b h0 h1 h2) Tryz.prog ((inHand C_Read0_0).or ((inHand C_Read1_0).or H_CF0a)) 5000 3 [.oi 0, .oi 1, .oi 2, .oi 3] H.empty) = true := (by as_aux_lemma => kernel_rfl)
end
theorem L_law_0 {m c f k : Nat} (b : Bd m c f k) (h0 : ¬ vA c 512 = (0)) (h1 : vA k 1024 = (0)) (h2 : ¬ vN c 1585 = (0)) (h3 : @InOk Tryz.prog C_Read1_0 (TB m c f k)) (h4 : @InOk Tryz.prog C_Read0_0 (TB m c f k)) (w : World) : Gives m c f k w := by
  letI : Tab := (T_L_law_0 b h0 h1 h2)
  obtain ⟨q_, hq_⟩ := CallOk.of_okTrue (P := Tryz.prog) mixed (HandOk.or (inHand_ok (InOk.tab (VRows.same _ _) h4) (by kernel_rfl)) (HandOk.or (inHand_ok (InOk.tab (VRows.same _ _) h3) (by kernel_rfl)) H_CF0a_ok)) (L_law_0_run b h0 h1 h2)
  exact gives hq_ w rfl rfl rfl rfl rfl rfl
section
variable {m c f k : Nat} (b : Bd m c f k) (h0 : ¬ vA c 512 = (0)) (h1 : ¬ vA k 1024 = (0)) (h2 : vN c 1585 = (0)) (h3 : vA c 16 = (0)) (h4 : ¬ vA c 1024 = (0)) (h5 : (f : Int) = (25)) (h6 : ¬ vN k 1055 = (0))
abbrev T_L_law_1 : Tab := (RC b (e9f 4 (0) ++ (e9f 5 (0) ++ (e9t 6 (0) ++ (e9t 7 (0) ++ (e9f 25 (0) ++ (e9t 2 (25) ++ (e9f 10 (0) ++ ([])))))))) (by letI := Tab.empty; exact (allApp (e9f_ok rfl h0) (allApp (e9f_ok rfl h1) (allApp (e9t_ok rfl h2) (allApp (e9t_ok rfl h3) (allApp (e9f_ok rfl h4) (allApp (e9t_ok rfl h5) (allApp (e9f_ok rfl h6) ibNil))))))))).tab
theorem L_law_1_run : okTrue (@call (T_L_law_1 b h0 h1 h2 h3 h4 h5 h6) Tryz.prog ((inHand C_Read2_0).or ((inHand C_Read3_0).or H_CF0a)) 5000 3 [.oi 0, .oi 1, .oi 2, .oi 3] H.empty) = true := (by as_aux_lemma => kernel_rfl)
end
theorem L_law_1 {m c f k : Nat} (b : Bd m c f k) (h0 : ¬ vA c 512 = (0)) (h1 : ¬ vA k 1024 = (0)) (h2 : vN c 1585 = (0)) (h3 : vA c 16 = (0)) (h4 : ¬ vA c 1024 = (0)) (h5 : (f : Int) = (25)) (h6 : ¬ vN k 1055 = (0)) (h7 : @InOk Tryz.prog C_Read3_0 (TB m c f k)) (h8 : @InOk Tryz.prog C_Read2_0 (TB m c f k)) (w : World) : Gives m c f k w := by
  letI : Tab := (T_L_law_1 b h0 h1 h2 h3 h4 h5 h6)
  obtain ⟨q_, hq_⟩ := CallOk.of_okTrue (P := Tryz.prog) mixed (HandOk.or (inHand_ok (InOk.tab (VRows.same _ _) h8) (by kernel_rfl)) (HandOk.or (inHand_ok (InOk.tab (VRows.same _ _) h7) (by kernel_rfl)) H_CF0a_ok)) (L_law_1_run b h0 h1 h2 h3 h4 h5 h6)
  exact gives hq_ w rfl rfl rfl rfl rfl rfl
section
variable {m c f k : Nat} (b : Bd m c f k) (h0 : ¬ vA c 512 = (0)) (h1 : ¬ vA k 1024 = (0)) (h2 : vN c 1585 = (0)) (h3 : vA c 16 = (0)) (h4 : ¬ vA c 1024 = (0)) (h5 : (f : Int) = (25)) (h6 : ¬ vN k 1055 = (0))
abbrev T_L_law_2 : Tab := (RC b (e9f 4 (0) ++ (e9f 5 (0) ++ (e9t 6 (0) ++ (e9t 7 (0) ++ (e9f 25 (0) ++ (e9t 2 (25) ++ (e9f 10 (0) ++ ([])))))))) (by letI := Tab.empty; exact (allApp (e9f_ok rfl h0) (allApp (e9f_ok rfl h1) (allApp (e9t_ok rfl h2) (allApp (e9t_ok rfl h3) (allApp (e9f_ok rfl h4) (allApp (e9t_ok rfl h5) (allApp (e9f_ok rfl h6) ibNil))))))))).tab
theorem L_law_2_run : okTrue (@call (T_L_law_2 b h0 h1 h2 h3 h4 h5 h6) Tryz.prog ((inHand C_Read2_1).or ((inHand C_Read3_1).or H_CF0a)) 5000 3 [.oi 0, .oi 1, .oi 2, .oi 3] H.empty) = true := (by as_aux_lemma => kernel_rfl)
end
theorem L_law_2 {m c f k : Nat} (b : Bd m c f k) (h0 : ¬ vA c 512 = (0)) (h1 : ¬ vA k 1024 = (0)) (h2 : vN c 1585 = (0)) (h3 : vA c 16 = (0)) (h4 : ¬ vA c 1024 = (0)) (h5 : (f : Int) = (25)) (h6 : ¬ vN k 1055 = (0)) (h7 : @InOk Tryz.prog C_Read3_1 (TB m c f k)) (h8 : @InOk Tryz.prog C_Read2_1 (TB m c f k)) (w : World) : Gives m c f k w := by
  letI : Tab := (T_L_law_2 b h0 h1 h2 h3 h4 h5 h6)
  obtain ⟨q_, hq_⟩ := CallOk.of_okTrue (P := Tryz.prog) mixed (HandOk.or (inHand_ok (InOk.tab (VRows.same _ _) h8) (by kernel_rfl)) (HandOk.or (inHand_ok (InOk.tab (VRows.same _ _) h7) (by kernel_rfl)) H_CF0a_ok)) (L_law_2_run b h0 h1 h2 h3 h4 h5 h6)
  exact gives hq_ w rfl rfl rfl rfl rfl rfl
section
variable {m c f k : Nat} (b : Bd m c f k) (h0 : ¬ vA c 512 = (0)) (h1 : ¬ vA k 1024 = (0)) (h2 : vN c 1585 = (0)) (h3 : vA c 16 = (0)) (h4 : ¬ vA c 1024 = (0)) (h5 : (f : Int) = (25)) (h6 : vN k 1055 = (0)) (h8 : ¬ vA k 26 = (0))
abbrev T_L_law_3 : Tab := (RC b (e9f 4 (0) ++ (e9f 5 (0) ++ (e9t 6 (0) ++ (e9t 7 (0) ++ (e9f 25 (0) ++ (e9t 2 (25) ++ (e9t 10 (0) ++ (e9f 73 (0) ++ ([]))))))))) (by letI := Tab.empty; exact (allApp (e9f_ok rfl h0) (allApp (e9f_ok rfl h1) (allApp (e9t_ok rfl h2) (allApp (e9t_ok rfl h3) (allApp (e9f_ok rfl h4) (allApp (e9t_ok rfl h5) (allApp (e9t_ok rfl h6) (allApp (e9f_ok rfl h8) ibNil)))))))))).tab
theorem L_law_3_run : okTrue (@call (T_L_law_3 b h0 h1 h2 h3 h4 h5 h6 h8) Tryz.prog ((inHand C_Read2_1).or ((inHand C_Read3_1).or ((H_access_k_true).or H_CF0a))) 5000 3 [.oi 0, .oi 1, .oi 2, .oi 3] H.empty) = true := (by as_aux_lemma => kernel_rfl)
end
theorem L_law_3 {m c f k : Nat} (b : Bd m c f k) (h0 : ¬ vA c 512 = (0)) (h1 : ¬ vA k 1024 = (0)) (h2 : vN c 1585 = (0)) (h3 : vA c 16 = (0)) (h4 : ¬ vA c 1024 = (0)) (h5 : (f : Int) = (25)) (h6 : vN k 1055 = (0)) (h7 : acc k = true) (h8 : ¬ vA k 26 = (0)) (h9 : @InOk Tryz.prog C_Read3_1 (TB m c f k)) (h10 : @InOk Tryz.prog C_Read2_1 (TB m c f k)) (w : World) : Gives m c f k w := by
  letI : Tab := (T_L_law_3 b h0 h1 h2 h3 h4 h5 h6 h8)
  obtain ⟨q_, hq_⟩ := CallOk.of_okTrue (P := Tryz.prog) mixed (HandOk.or (inHand_ok (InOk.tab (VRows.same _ _) h10) (by kernel_rfl)) (HandOk.or (inHand_ok (InOk.tab (VRows.same _ _) h9) (by kernel_rfl)) (HandOk.or (H_access_k_true_ok b h7 (VRows.same _ _)) H_CF0a_ok))) (L_law_3_run b h0 h1 h2 h3 h4 h5 h6 h8)
  exact gives hq_ w rfl rfl rfl rfl rfl rfl
section
variable {m c f k : Nat} (b : Bd m c f k) (h0 : ¬ vA c 512 = (0)) (h1 : ¬ vA k 1024 = (0)) (h2 : vN c 1585 = (0)) (h3 : vA c 16 = (0)) (h4 : ¬ vA c 1024 = (0)) (h5 : (f : Int) = (25)) (h6 : vN k 1055 = (0))
abbrev T_L_law_4 : Tab := (RC b (e9f 4 (0) ++ (e9f 5 (0) ++ (e9t 6 (0) ++ (e9t 7 (0) ++ (e9f 25 (0) ++ (e9t 2 (25) ++ (e9t 10 (0) ++ ([])))))))) (by letI := Tab.empty; exact (allApp (e9f_ok rfl h0) (allApp (e9f_ok rfl h1) (allApp (e9t_ok rfl h2) (allApp (e9t_ok rfl h3) (allApp (e9f_ok rfl h4) (allApp (e9t_ok rfl h5) (allApp (e9t_ok rfl h6) ibNil))))))))).tab
theorem L_law_4_run : okTrue (@call (T_L_law_4 b h0 h1 h2 h3 h4 h5 h6) Tryz.prog ((inHand C_Read2_0).or ((inHand C_Read3_0).or ((H_access_k_false).or H_CF0a))) 5000 3 [.oi 0, .oi 1, .oi 2, .oi 3] H.empty) = true := (by as_aux_lemma => kernel_rfl)
end
theorem L_law_4 {m c f k : Nat} (b : Bd m c f k) (h0 : ¬ vA c 512 = (0)) (h1 : ¬ vA k 1024 = (0)) (h2 : vN c 1585 = (0)) (h3 : vA c 16 = (0)) (h4 : ¬ vA c 1024 = (0)) (h5 : (f : Int) = (25)) (h6 : vN k 1055 = (0)) (h7 : acc k = false) (h8 : @InOk Tryz.prog C_Read3_0 (TB m c f k)) (h9 : @InOk Tryz.prog C_Read2_0 (TB m c f k)) (w : World) : Gives m c f k w := by
  letI : Tab := (T_L_law_4 b h0 h1 h2 h3 h4 h5 h6)
  obtain ⟨q_, hq_⟩ := CallOk.of_okTrue (P := Tryz.prog) mixed (HandOk.or (inHand_ok (InOk.tab (VRows.same _ _) h9) (by kernel_rfl)) (HandOk.or (inHand_ok (InOk.tab (VRows.same _ _) h8) (by kernel_rfl)) (HandOk.or (H_access_k_false_ok b h7 (VRows.same _ _)) H_CF0a_ok))) (L_law_4_run b h0 h1 h2 h3 h4 h5 h6)
  exact gives hq_ w rfl rfl rfl rfl rfl rfl
section
variable {m c f k : Nat} (b : Bd m c f k) (h0 : ¬ vA c 512 = (0)) (h1 : vA k 1024 = (0)) (h2 : vN c 1585 = (0)) (h3 : vA c 16 = (0)) (h4 : ¬ vA c 1024 = (0)) (h5 : (f : Int) = (25)) (h6 : ¬ vN k 1055 = (0))
abbrev T_L_law_5 : Tab := (RC b (e9f 4 (0) ++ (e9t 5 (0) ++ (e9t 6 (0) ++ (e9t 7 (0) ++ (e9f 25 (0) ++ (e9t 2 (25) ++ (e9f 10 (0) ++ ([])))))))) (by letI := Tab.empty; exact (allApp (e9f_ok rfl h0) (allApp (e9t_ok rfl h1) (allApp (e9t_ok rfl h2) (allApp (e9t_ok rfl h3) (allApp (e9f_ok rfl h4) (allApp (e9t_ok rfl h5) (allApp (e9f_ok rfl h6) ibNil))))))))).tab
theorem L_law_5_run : okTrue (@call (T_L_law_5 b h0 h1 h2 h3 h4 h5 h6) Tryz.prog ((inHand C_Read4_0).or ((inHand C_Read1_1).or H_CF0a)) 5000 3 [.oi 0, .oi 1, .oi 2, .oi 3] H.empty) = true := (by as_aux_lemma => kernel_rfl)
end
theorem L_law_5 {m c f k : Nat} (b : Bd m c f k) (h0 : ¬ vA c 512 = (0)) (h1 : vA k 1024 = (0)) (h2 : vN c 1585 = (0)) (h3 : vA c 16 = (0)) (h4 : ¬ vA c 1024 = (0)) (h5 : (f : Int) = (25)) (h6 : ¬ vN k 1055 = (0)) (h7 : @InOk Tryz.prog C_Read1_1 (TB m c f k)) (h8 : @InOk Tryz.prog C_Read4_0 (TB m c f k)) (w : World) : Gives m c f k w := by
  letI : Tab := (T_L_law_5 b h0 h1 h2 h3 h4 h5 h6)
  obtain ⟨q_, hq_⟩ := CallOk.of_okTrue (P := Tryz.prog) mixed (HandOk.or (inHand_ok (InOk.tab (VRows.same _ _) h8) (by kernel_rfl)) (HandOk.or (inHand_ok (InOk.tab (VRows.same _ _) h7) (by kernel_rfl)) H_CF0a_ok)) (L_law_5_run b h0 h1 h2 h3 h4 h5 h6)
  exact gives hq_ w rfl rfl rfl rfl rfl rfl
section
variable {m c f k : Nat} (b : Bd m c f k) (h0 : ¬ vA c 512 = (0)) (h1 : vA k 1024 = (0)) (h2 : vN c 1585 = (0)) (h3 : vA c 16 = (0)) (h4 : ¬ vA c 1024 = (0)) (h5 : (f : Int) = (25)) (h6 : ¬ vN k 1055 = (0))
abbrev T_L_law_6 : Tab := (RC b (e9f 4 (0) ++ (e9t 5 (0) ++ (e9t 6 (0) ++ (e9t 7 (0) ++ (e9f 25 (0) ++ (e9t 2 (25) ++ (e9f 10 (0) ++ ([])))))))) (by letI := Tab.empty; exact (allApp (e9f_ok rfl h0) (allApp (e9t_ok rfl h1) (allApp (e9t_ok rfl h2) (allApp (e9t_ok rfl h3) (allApp (e9f_ok rfl h4) (allApp (e9t_ok rfl h5) (allApp (e9f_ok rfl h6) ibNil))))))))).tab
theorem L_law_6_run : okTrue (@call (T_L_law_6 b h0 h1 h2 h3 h4 h5 h6) Tryz.prog ((inHand C_Read4_1).or ((inHand C_Read1_2).or H_CF0a)) 5000 3 [.oi 0, .oi 1, .oi 2, .oi 3] H.empty) = true := (by as_aux_lemma => kernel_rfl)
end
theorem L_law_6 {m c f k : Nat} (b : Bd m c f k) (h0 : ¬ vA c 512 = (0)) (h1 : vA k 1024 = (0)) (h2 : vN c 1585 = (0)) (h3 : vA c 16 = (0)) (h4 : ¬ vA c 1024 = (0)) (h5 : (f : Int) = (25)) (h6 : ¬ vN k 1055 = (0)) (h7 : @InOk Tryz.prog C_Read1_2 (TB m c f k)) (h8 : @InOk Tryz.prog C_Read4_1 (TB m c f k)) (w : World) : Gives m c f k w := by
  letI : Tab := (T_L_law_6 b h0 h1 h2 h3 h4 h5 h6)
  obtain ⟨q_, hq_⟩ := CallOk.of_okTrue (P := Tryz.prog) mixed (HandOk.or (inHand_ok (InOk.tab (VRows.same _ _) h8) (by kernel_rfl)) (HandOk.or (inHand_ok (InOk.tab (VRows.same _ _) h7) (by kernel_rfl)) H_CF0a_ok)) (L_law_6_run b h0 h1 h2 h3 h4 h5 h6)
  exact gives hq_ w rfl rfl rfl rfl rfl rfl
section
variable {m c f k : Nat} (b : Bd m c f k) (h0 : ¬ vA c 512 = (0)) (h1 : vA k 1024 = (0)) (h2 : vN c 1585 = (0)) (h3 : vA c 16 = (0)) (h4 : ¬ vA c 1024 = (0)) (h5 : (f : Int) = (25)) (h6 : vN k 1055 = (0))
abbrev T_L_law_7 : Tab := (RC b (e9f 4 (0) ++ (e9t 5 (0) ++ (e9t 6 (0) ++ (e9t 7 (0) ++ (e9f 25 (0) ++ (e9t 2 (25) ++ (e9t 10 (0) ++ ([])))))))) (by letI := Tab.empty; exact (allApp (e9f_ok rfl h0) (allApp (e9t_ok rfl h1) (allApp (e9t_ok rfl h2) (allApp (e9t_ok rfl h3) (allApp (e9f_ok rfl h4) (allApp (e9t_ok rfl h5) (allApp (e9t_ok rfl h6) ibNil))))))))).tab
theorem L_law_7_run : okTrue (@call (T_L_law_7 b h0 h1 h2 h3 h4 h5 h6) Tryz.prog ((inHand C_Read4_0).or ((inHand C_Read1_1).or ((H_access_k_false).or H_CF0a))) 5000 3 [.oi 0, .oi 1, .oi 2, .oi 3] H.empty) = true := (by as_aux_lemma => kernel_rfl)
end
theorem L_law_7 {m c f k : Nat} (b : Bd m c f k) (h0 : ¬ vA c 512 = (0)) (h1 : vA k 1024 = (0)) (h2 : vN c 1585 = (0)) (h3 : vA c 16 = (0)) (h4 : ¬ vA c 1024 = (0)) (h5 : (f : Int) = (25)) (h6 : vN k 1055 = (0)) (h7 : acc k = false) (h8 : @InOk Tryz.prog C_Read1_1 (TB m c f k)) (h9 : @InOk Tryz.prog C_Read4_0 (TB m c f k)) (w : World) : Gives m c f k w := by
  letI : Tab := (T_L_law_7 b h0 h1 h2 h3 h4 h5 h6)
  obtain ⟨q_, hq_⟩ := CallOk.of_okTrue (P := Tryz.prog) mixed (HandOk.or (inHand_ok (InOk.tab (VRows.same _ _) h9) (by kernel_rfl)) (HandOk.or (inHand_ok (InOk.tab (VRows.same _ _) h8) (by kernel_rfl)) (HandOk.or (H_access_k_false_ok b h7 (VRows.same _ _)) H_CF0a_ok))) (L_law_7_run b h0 h1 h2 h3 h4 h5 h6)
  exact gives hq_ w rfl rfl rfl rfl rfl rfl
section
variable {m c f k : Nat} (b : Bd m c f k) (h0 : ¬ vA c 512 = (0)) (h1 : vA k 1024 = (0)) (h2 : vN c 1585 = (0)) (h3 : vA c 16 = (0)) (h4 : ¬ vA c 1024 = (0)) (h5 : (f : Int) = (25)) (h6 : vN k 1055 = (0)) (h8 : ¬ vA k 20 = (0))
abbrev T_L_law_8 : Tab := (RC b (e9f 4 (0) ++ (e9t 5 (0) ++ (e9t 6 (0) ++ (e9t 7 (0) ++ (e9f 25 (0) ++ (e9t 2 (25) ++ (e9t 10 (0) ++ (e9f 74 (0) ++ ([]))))))))) (by letI := Tab.empty; exact (allApp (e9f_ok rfl h0) (allApp (e9t_ok rfl h1) (allApp (e9t_ok rfl h2) (allApp (e9t_ok rfl h3) (allApp (e9f_ok rfl h4) (allApp (e9t_ok rfl h5) (allApp (e9t_ok rfl h6) (allApp (e9f_ok rfl h8) ibNil)))))))))).tab
theorem L_law_8_run : okTrue (@call (T_L_law_8 b h0 h1 h2 h3 h4 h5 h6 h8) Tryz.prog ((inHand C_Read4_1).or ((inHand C_Read1_2).or ((H_access_k_true).or H_CF0a))) 5000 3 [.oi 0, .oi 1, .oi 2, .oi 3] H.empty) = true := (by as_aux_lemma => kernel_rfl)
end
theorem L_law_8 {m c f k : Nat} (b : Bd m c f k) (h0 : ¬ vA c 512 = (0)) (h1 : vA k 1024 = (0)) (h2 : vN c 1585 = (0)) (h3 : vA c 16 = (0)) (h4 : ¬ vA c 1024 = (0)) (h5 : (f : Int) = (25)) (h6 : vN k 1055 = (0)) (h7 : acc k = true) (h8 : ¬ vA k 20 = (0)) (h9 : @InOk Tryz.prog C_Read1_2 (TB m c f k)) (h10 : @InOk Tryz.prog C_Read4_1 (TB m c f k)) (w : World) : Gives m c f k w := by
  letI : Tab := (T_L_law_8 b h0 h1 h2 h3 h4 h5 h6 h8)
  obtain ⟨q_, hq_⟩ := CallOk.of_okTrue (P := Tryz.prog) mixed (HandOk.or (inHand_ok (InOk.tab (VRows.same _ _) h10) (by kernel_rfl)) (HandOk.or (inHand_ok (InOk.tab (VRows.same _ _) h9) (by kernel_rfl)) (HandOk.or (H_access_k_true_ok b h7 (VRows.same _ _)) H_CF0a_ok))) (L_law_8_run b h0 h1 h2 h3 h4 h5 h6 h8)
  exact gives hq_ w rfl rfl rfl rfl rfl rfl
section
variable {m c f k : Nat} (b : Bd m c f k) (h0 : ¬ vA c 512 = (0)) (h1 : vA k 1024 = (0)) (h2 : vN c 1585 = (0)) (h3 : vA c 16 = (0)) (h4 : ¬ vA c 1024 = (0)) (h5 : (f : Int) = (25)) (h6 : vN k 1055 = (0)) (h8 : vA k 20 = (0)) (h9 : ¬ vA k 3 = (0)) (h10 : (m : Int) = (52))
abbrev T_L_law_9 : Tab := (RC b (e9f 4 (0) ++ (e9t 5 (0) ++ (e9t 6 (0) ++ (e9t 7 (0) ++ (e9f 25 (0) ++ (e9t 2 (25) ++ (e9t 10 (0) ++ (e9t 74 (0) ++ (e9f 75 (0) ++ (e9t 0 (52) ++ ([]))))))))))) (by letI := Tab.empty; exact (allApp (e9f_ok rfl h0) (allApp (e9t_ok rfl h1) (allApp (e9t_ok rfl h2) (allApp (e9t_ok rfl h3) (allApp (e9f_ok rfl h4) (allApp (e9t_ok rfl h5) (allApp (e9t_ok rfl h6) (allApp (e9t_ok rfl h8) (allApp (e9f_ok rfl h9) (allApp (e9t_ok rfl h10) ibNil)))))))))))).tab
theorem L_law_9_run : okTrue (@call (T_L_law_9 b h0 h1 h2 h3 h4 h5 h6 h8 h9 h10) Tryz.prog ((inHand C_Read5_0).or ((inHand C_Read1_3).or ((H_access_k_true).or H_CF0a))) 5000 3 [.oi 0, .oi 1, .oi 2, .oi 3] H.empty) = true := (by as_aux_lemma => kernel_rfl)
end
theorem L_law_9 {m c f k : Nat} (b : Bd m c f k) (h0 : ¬ vA c 512 = (0)) (h1 : vA k 1024 = (0)) (h2 : vN c 1585 = (0)) (h3 : vA c 16 = (0)) (h4 : ¬ vA c 1024 = (0)) (h5 : (f : Int) = (25)) (h6 : vN k 1055 = (0)) (h7 : acc k = true) (h8 : vA k 20 = (0)) (h9 : ¬ vA k 3 = (0)) (h10 : (m : Int) = (52)) (h11 : @InOk Tryz.prog C_Read1_3 (TB m c f k)) (h12 : @InOk Tryz.prog C_Read5_0 (TB m c f k)) (w : World) : Gives m c f k w := by
  letI : Tab := (T_L_law_9 b h0 h1 h2 h3 h4 h5 h6 h8 h9 h10)
  obtain ⟨q_, hq_⟩ := CallOk.of_okTrue (P := Tryz.prog) mixed (HandOk.or (inHand_ok (InOk.tab (VRows.same _ _) h12) (by kernel_rfl)) (HandOk.or (inHand_ok (InOk.tab (VRows.same _ _) h11) (by kernel_rfl)) (HandOk.or (H_access_k_true_ok b h7 (VRows.same _ _)) H_CF0a_ok))) (L_law_9_run b h0 h1 h2 h3 h4 h5 h6 h8 h9 h10)
  exact gives hq_ w rfl rfl rfl rfl rfl rfl
section
variable {m c f k : Nat} (b : Bd m c f k) (h0 : ¬ vA c 512 = (0)) (h1 : vA k 1024 = (0)) (h2 : vN c 1585 = (0)) (h3 : vA c 16 = (0)) (h4 : ¬ vA c 1024 = (0)) (h5 : (f : Int) = (25)) (h6 : vN k 1055 = (0)) (h8 : vA k 20 = (0)) (h9 : vA k 3 = (0))
abbrev T_L_law_10 : Tab := (RC b (e9f 4 (0) ++ (e9t 5 (0) ++ (e9t 6 (0) ++ (e9t 7 (0) ++ (e9f 25 (0) ++ (e9t 2 (25) ++ (e9t 10 (0) ++ (e9t 74 (0) ++ (e9t 75 (0) ++ ([])))))))))) (by letI := Tab.empty; exact (allApp (e9f_ok rfl h0) (allApp (e9t_ok rfl h1) (allApp (e9t_ok rfl h2) (allApp (e9t_ok rfl h3) (allApp (e9f_ok rfl h4) (allApp (e9t_ok rfl h5) (allApp (e9t_ok rfl h6) (allApp (e9t_ok rfl h8) (allApp (e9t_ok rfl h9) ibNil))))))))))).tab
theorem L_law_10_run : okTrue (@call (T_L_law_10 b h0 h1 h2 h3 h4 h5 h6 h8 h9) Tryz.prog ((inHand C_Read4_1).or ((inHand C_Read1_2).or ((H_access_k_true).or H_CF0a))) 5000 3 [.oi 0, .oi 1, .oi 2, .oi 3] H.empty) = true := (by as_aux_lemma => kernel_rfl)
end
theorem L_law_10 {m c f k : Nat} (b : Bd m c f k) (h0 : ¬ vA c 512 = (0)) (h1 : vA k 1024 = (0)) (h2 : vN c 1585 = (0)) (h3 : vA c 16 = (0)) (h4 : ¬ vA c 1024 = (0)) (h5 : (f : Int) = (25)) (h6 : vN k 1055 = (0)) (h7 : acc k = true) (h8 : vA k 20 = (0)) (h9 : vA k 3 = (0)) (h10 : @InOk Tryz.prog C_Read1_2 (TB m c f k)) (h11 : @InOk Tryz.prog C_Read4_1 (TB m c f k)) (w : World) : Gives m c f k w := by
  letI : Tab := (T_L_law_10 b h0 h1 h2 h3 h4 h5 h6 h8 h9)
  obtain ⟨q_, hq_⟩ := CallOk.of_okTrue (P := Tryz.prog) mixed (HandOk.or (inHand_ok (InOk.tab (VRows.same _ _) h11) (by kernel_rfl)) (HandOk.or (inHand_ok (InOk.tab (VRows.same _ _) h10) (by kernel_rfl)) (HandOk.or (H_access_k_true_ok b h7 (VRows.same _ _)) H_CF0a_ok))) (L_law_10_run b h0 h1 h2 h3 h4 h5 h6 h8 h9)
  exact gives hq_ w rfl rfl rfl rfl rfl rfl
section
variable {m c f k : Nat} (b : Bd m c f k) (h0 : ¬ vA c 512 = (0)) (h1 : vA k 1024 = (0)) (h2 : vN c 1585 = (0)) (h3 : vA c 16 = (0)) (h4 : ¬ vA c 1024 = (0)) (h5 : ¬ (f : Int) = (25))
abbrev T_L_law_11 : Tab := (RC b (e9f 4 (0) ++ (e9t 5 (0) ++ (e9t 6 (0) ++ (e9t 7 (0) ++ (e9f 25 (0) ++ (e9f 2 (25) ++ ([]))))))) (by letI := Tab.empty; exact (allApp (e9f_ok rfl h0) (allApp (e9t_ok rfl h1) (allApp (e9t_ok rfl h2) (allApp (e9t_ok rfl h3) (allApp (e9f_ok rfl h4) (allApp (e9f_ok rfl h5) ibNil)))))))).tab
theorem L_law_11_run : okTrue (@call (T_L_law_11 b h0 h1 h2 h3 h4 h5) Tryz.prog ((inHand C_Read6_0).or ((inHand C_Read1_4).or H_CF0a)) 5000 3 [.oi 0, .oi 1, .oi 2, .oi 3] H.empty) = true := (by as_aux_lemma => kernel_rfl)
end
theorem L_law_11 {m c f k : Nat} (b : Bd m c f k) (h0 : ¬ vA c 512 = (0)) (h1 : vA k 1024 = (0)) (h2 : vN c 1585 = (0)) (h3 : vA c 16 = (0)) (h4 : ¬ vA c 1024 = (0)) (h5 : ¬ (f : Int) = (25)) (h6 : @InOk Tryz.prog C_Read1_4 (TB m c f k)) (h7 : @InOk Tryz.prog C_Read6_0 (TB m c f k)) (w : World) : Gives m c f k w := by
  letI : Tab := (T_L_law_11 b h0 h1 h2 h3 h4 h5)
  obtain ⟨q_, hq_⟩ := CallOk.of_okTrue (P := Tryz.prog) mixed (HandOk.or (inHand_ok (InOk.tab (VRows.same _ _) h7) (by kernel_rfl)) (HandOk.or (inHand_ok (InOk.tab (VRows.same _ _) h6) (by kernel_rfl)) H_CF0a_ok)) (L_law_11_run b h0 h1 h2 h3 h4 h5)
  exact gives hq_ w rfl rfl rfl rfl rfl rfl
section
variable {m c f k : Nat} (b : Bd m c f k) (h0 : vA c 512 = (0)) (h1 : vA k 1024 = (0)) (h2 : ¬ vN c 1585 = (0))
abbrev T_L_law_12 : Tab := (RC b (e9t 4 (0) ++ (e9t 5 (0) ++ (e9f 6 (0) ++ ([])))) (by letI := Tab.empty; exact (allApp (e9t_ok rfl h0) (allApp (e9t_ok rfl h1) (allApp (e9f_ok rfl h2) ibNil))))).tab
theorem L_law_12_run : okTrue (@call (T_L_law_12 b h0 h1 h2) Tryz.prog ((inHand C_Read0_0).or ((inHand C_Read1_0).or H_CF0a)) 5000 3 [.oi 0, .oi 1, .oi 2, .oi 3] H.empty) = true := (by as_aux_lemma => kernel_rfl)
end
theorem L_law_12 {m c f k : Nat} (b : Bd m c f k) (h0 : vA c 512 = (0)) (h1 : vA k 1024 = (0)) (h2 : ¬ vN c 1585 = (0)) (h3 : @InOk Tryz.prog C_Read1_0 (TB m c f k)) (h4 : @InOk Tryz.prog C_Read0_0 (TB m c f k)) (w : World) : Gives m c f k w := by
  letI : Tab := (T_L_law_12 b h0 h1 h2)
  obtain ⟨q_, hq_⟩ := CallOk.of_okTrue (P := Tryz.prog) mixed (HandOk.or (inHand_ok (InOk.tab (VRows.same _ _) h4) (by kernel_rfl)) (HandOk.or (inHand_ok (InOk.tab (VRows.same _ _) h3) (by kernel_rfl)) H_CF0a_ok)) (L_law_12_run b h0 h1 h2)
  exact gives hq_ w rfl rfl rfl rfl rfl rfl
section
variable {m c f k : Nat} (b : Bd m c f k) (h0 : vA c 512 = (0)) (h1 : vA k 1024 = (0)) (h2 : vN c 1585 = (0)) (h3 : vA c 16 = (0)) (h4 : ¬ vN f 31 = (0))
abbrev T_L_law_13 : Tab := (RC b (e9t 4 (0) ++ (e9t 5 (0) ++ (e9t 6 (0) ++ (e9t 7 (0) ++ (e9f 8 (0) ++ ([])))))) (by letI := Tab.empty; exact (allApp (e9t_ok rfl h0) (allApp (e9t_ok rfl h1) (allApp (e9t_ok rfl h2) (allApp (e9t_ok rfl h3) (allApp (e9f_ok rfl h4) ibNil))))))).tab
theorem L_law_13_run : okTrue (@call (T_L_law_13 b h0 h1 h2 h3 h4) Tryz.prog ((inHand C_Read6_0).or ((inHand C_Read1_4).or H_CF0a)) 5000 3 [.oi 0, .oi 1, .oi 2, .oi 3] H.empty) = true := (by as_aux_lemma => kernel_rfl)
end
theorem L_law_13 {m c f k : Nat} (b : Bd m c f k) (h0 : vA c 512 = (0)) (h1 : vA k 1024 = (0)) (h2 : vN c 1585 = (0)) (h3 : vA c 16 = (0)) (h4 : ¬ vN f 31 = (0)) (h5 : @InOk Tryz.prog C_Read1_4 (TB m c f k)) (h6 : @InOk Tryz.prog C_Read6_0 (TB m c f k)) (w : World) : Gives m c f k w := by
  letI : Tab := (T_L_law_13 b h0 h1 h2 h3 h4)
  obtain ⟨q_, hq_⟩ := CallOk.of_okTrue (P := Tryz.prog) mixed (HandOk.or (inHand_ok (InOk.tab (VRows.same _ _) h6) (by kernel_rfl)) (HandOk.or (inHand_ok (InOk.tab (VRows.same _ _) h5) (by kernel_rfl)) H_CF0a_ok)) (L_law_13_run b h0 h1 h2 h3 h4)
  exact gives hq_ w rfl rfl rfl rfl rfl rfl
section
variable {m c f k : Nat} (b : Bd m c f k) (h0 : vA c 512 = (0)) (h1 : vA k 1024 = (0)) (h2 : vN c 1585 = (0)) (h3 : vA c 16 = (0)) (h4 : vN f 31 = (0)) (h6 : vN k 1055 = (0))
abbrev T_L_law_14 : Tab := (RC b (e9t 4 (0) ++ (e9t 5 (0) ++ (e9t 6 (0) ++ (e9t 7 (0) ++ (e9t 8 (0) ++ (e9t 10 (0) ++ ([]))))))) (by letI := Tab.empty; exact (allApp (e9t_ok rfl h0) (allApp (e9t_ok rfl h1) (allApp (e9t_ok rfl h2) (allApp (e9t_ok rfl h3) (allApp (e9t_ok rfl h4) (allApp (e9t_ok rfl h6) ibNil)))))))).tab
theorem L_law_14_run : okTrue (@call (T_L_law_14 b h0 h1 h2 h3 h4 h6) Tryz.prog ((inHand C_Read5_1).or ((inHand C_Read1_5).or ((H_access_k_true).or ((H_access_f_true).or H_CF0a)))) 5000 3 [.oi 0, .oi 1, .oi 2, .oi 3] H.empty) = true := (by as_aux_lemma => kernel_rfl)
end
theorem L_law_14 {m c f k : Nat} (b : Bd m c f k) (h0 : vA c 512 = (0)) (h1 : vA k 1024 = (0)) (h2 : vN c 1585 = (0)) (h3 : vA c 16 = (0)) (h4 : vN f 31 = (0)) (h5 : acc f = true) (h6 : vN k 1055 = (0)) (h7 : acc k = true) (h8 : @InOk Tryz.prog C_Read1_5 (TB m c f k)) (h9 : @InOk Tryz.prog C_Read5_1 (TB m c f k)) (w : World) : Gives m c f k w := by
  letI : Tab := (T_L_law_14 b h0 h1 h2 h3 h4 h6)
  obtain ⟨q_, hq_⟩ := CallOk.of_okTrue (P := Tryz.prog) mixed (HandOk.or (inHand_ok (InOk.tab (VRows.same _ _) h9) (by kernel_rfl)) (HandOk.or (inHand_ok (InOk.tab (VRows.same _ _) h8) (by kernel_rfl)) (HandOk.or (H_access_k_true_ok b h7 (VRows.same _ _)) (HandOk.or (H_access_f_true_ok b h5 (VRows.same _ _)) H_CF0a_ok)))) (L_law_14_run b h0 h1 h2 h3 h4 h6)
  exact gives hq_ w rfl rfl rfl rfl rfl rfl
section
variable {m c f k : Nat} (b : Bd m c f k) (h0 : vA c 512 = (0)) (h1 : ¬ vA k 1024 = (0)) (h2 : vN c 1585 = (0)) (h3 : vA c 16 = (0)) (h4 : vN f 31 = (0)) (h6 : ¬ vN k 1055 = (0))
abbrev T_L_law_15 : Tab := (RC b (e9t 4 (0) ++ (e9f 5 (0) ++ (e9t 6 (0) ++ (e9t 7 (0) ++ (e9t 8 (0) ++ (e9f 10 (0) ++ ([]))))))) (by letI := Tab.empty; exact (allApp (e9t_ok rfl h0) (allApp (e9f_ok rfl h1) (allApp (e9t_ok rfl h2) (allApp (e9t_ok rfl h3) (allApp (e9t_ok rfl h4) (allApp (e9f_ok rfl h6) ibNil)))))))).tab
theorem L_law_15_run : okTrue (@call (T_L_law_15 b h0 h1 h2 h3 h4 h6) Tryz.prog ((inHand C_Read2_1).or ((inHand C_Read3_1).or ((H_access_f_true).or H_CF0a))) 5000 3 [.oi 0, .oi 1, .oi 2, .oi 3] H.empty) = true := (by as_aux_lemma => kernel_rfl)
end
theorem L_law_15 {m c f k : Nat} (b : Bd m c f k) (h0 : vA c 512 = (0)) (h1 : ¬ vA k 1024 = (0)) (h2 : vN c 1585 = (0)) (h3 : vA c 16 = (0)) (h4 : vN f 31 = (0)) (h5 : acc f = true) (h6 : ¬ vN k 1055 = (0)) (h7 : @InOk Tryz.prog C_Read3_1 (TB m c f k)) (h8 : @InOk Tryz.prog C_Read2_1 (TB m c f k)) (w : World) : Gives m c f k w := by
  letI : Tab := (T_L_law_15 b h0 h1 h2 h3 h4 h6)
  obtain ⟨q_, hq_⟩ := CallOk.of_okTrue (P := Tryz.prog) mixed (HandOk.or (inHand_ok (InOk.tab (VRows.same _ _) h8) (by kernel_rfl)) (HandOk.or (inHand_ok (InOk.tab (VRows.same _ _) h7) (by kernel_rfl)) (HandOk.or (H_access_f_true_ok b h5 (VRows.same _ _)) H_CF0a_ok))) (L_law_15_run b h0 h1 h2 h3 h4 h6)
  exact gives hq_ w rfl rfl rfl rfl rfl rfl
section
variable {m c f k : Nat} (b : Bd m c f k) (h0 : vA c 512 = (0)) (h1 : ¬ vA k 1024 = (0)) (h2 : vN c 1585 = (0)) (h3 : vA c 16 = (0)) (h4 : vN f 31 = (0)) (h6 : ¬ vN k 1055 = (0))
abbrev T_L_law_16 : Tab := (RC b (e9t 4 (0) ++ (e9f 5 (0) ++ (e9t 6 (0) ++ (e9t 7 (0) ++ (e9t 8 (0) ++ (e9f 10 (0) ++ ([]))))))) (by letI := Tab.empty; exact (allApp (e9t_ok rfl h0) (allApp (e9f_ok rfl h1) (allApp (e9t_ok rfl h2) (allApp (e9t_ok rfl h3) (allApp (e9t_ok rfl h4) (allApp (e9f_ok rfl h6) ibNil)))))))).tab
theorem L_law_16_run : okTrue (@call (T_L_law_16 b h0 h1 h2 h3 h4 h6) Tryz.prog ((inHand C_Read2_0).or ((inHand C_Read3_0).or ((H_access_f_true).or H_CF0a))) 5000 3 [.oi 0, .oi 1, .oi 2, .oi 3] H.empty) = true := (by as_aux_lemma => kernel_rfl)
end
theorem L_law_16 {m c f k : Nat} (b : Bd m c f k) (h0 : vA c 512 = (0)) (h1 : ¬ vA k 1024 = (0)) (h2 : vN c 1585 = (0)) (h3 : vA c 16 = (0)) (h4 : vN f 31 = (0)) (h5 : acc f = true) (h6 : ¬ vN k 1055 = (0)) (h7 : @InOk Tryz.prog C_Read3_0 (TB m c f k)) (h8 : @InOk Tryz.prog C_Read2_0 (TB m c f k)) (w : World) : Gives m c f k w := by
  letI : Tab := (T_L_law_16 b h0 h1 h2 h3 h4 h6)
  obtain ⟨q_, hq_⟩ := CallOk.of_okTrue (P := Tryz.prog) mixed (HandOk.or (inHand_ok (InOk.tab (VRows.same _ _) h8) (by kernel_rfl)) (HandOk.or (inHand_ok (InOk.tab (VRows.same _ _) h7) (by kernel_rfl)) (HandOk.or (H_access_f_true_ok b h5 (VRows.same _ _)) H_CF0a_ok))) (L_law_16_run b h0 h1 h2 h3 h4 h6)
  exact gives hq_ w rfl rfl rfl rfl rfl rfl
section
variable {m c f k : Nat} (b : Bd m c f k) (h0 : vA c 512 = (0)) (h1 : ¬ vA k 1024 = (0)) (h2 : vN c 1585 = (0)) (h3 : vA c 16 = (0)) (h4 : vN f 31 = (0)) (h6 : vN k 1055 = (0)) (h8 : ¬ vA k 26 = (0))
abbrev T_L_law_17 : Tab := (RC b (e9t 4 (0) ++ (e9f 5 (0) ++ (e9t 6 (0) ++ (e9t 7 (0) ++ (e9t 8 (0) ++ (e9t 10 (0) ++ (e9f 73 (0) ++ ([])))))))) (by letI := Tab.empty; exact (allApp (e9t_ok rfl h0) (allApp (e9f_ok rfl h1) (allApp (e9t_ok rfl h2) (allApp (e9t_ok rfl h3) (allApp (e9t_ok rfl h4) (allApp (e9t_ok rfl h6) (allApp (e9f_ok rfl h8) ibNil))))))))).tab
theorem L_law_17_run : okTrue (@call (T_L_law_17 b h0 h1 h2 h3 h4 h6 h8) Tryz.prog ((inHand C_Read2_0).or ((inHand C_Read3_0).or ((H_access_k_true).or ((H_access_f_true).or H_CF0a)))) 5000 3 [.oi 0, .oi 1, .oi 2, .oi 3] H.empty) = true := (by as_aux_lemma => kernel_rfl)
end
theorem L_law_17 {m c f k : Nat} (b : Bd m c f k) (h0 : vA c 512 = (0)) (h1 : ¬ vA k 1024 = (0)) (h2 : vN c 1585 = (0)) (h3 : vA c 16 = (0)) (h4 : vN f 31 = (0)) (h5 : acc f = true) (h6 : vN k 1055 = (0)) (h7 : acc k = true) (h8 : ¬ vA k 26 = (0)) (h9 : @InOk Tryz.prog C_Read3_0 (TB m c f k)) (h10 : @InOk Tryz.prog C_Read2_0 (TB m c f k)) (w : World) : Gives m c f k w := by
  letI : Tab := (T_L_law_17 b h0 h1 h2 h3 h4 h6 h8)
  obtain ⟨q_, hq_⟩ := CallOk.of_okTrue (P := Tryz.prog) mixed (HandOk.or (inHand_ok (InOk.tab (VRows.same _ _) h10) (by kernel_rfl)) (HandOk.or (inHand_ok (InOk.tab (VRows.same _ _) h9) (by kernel_rfl)) (HandOk.or (H_access_k_true_ok b h7 (VRows.same _ _)) (HandOk.or (H_access_f_true_ok b h5 (VRows.same _ _)) H_CF0a_ok)))) (L_law_17_run b h0 h1 h2 h3 h4 h6 h8)
  exact gives hq_ w rfl rfl rfl rfl rfl rfl
section
variable {m c f k : Nat} (b : Bd m c f k) (h0 : vA c 512 = (0)) (h1 : ¬ vA k 1024 = (0)) (h2 : vN c 1585 = (0)) (h3 : vA c 16 = (0)) (h4 : vN f 31 = (0)) (h6 : vN k 1055 = (0)) (h8 : ¬ vA k 26 = (0))
abbrev T_L_law_18 : Tab := (RC b (e9t 4 (0) ++ (e9f 5 (0) ++ (e9t 6 (0) ++ (e9t 7 (0) ++ (e9t 8 (0) ++ (e9t 10 (0) ++ (e9f 73 (0) ++ ([])))))))) (by letI := Tab.empty; exact (allApp (e9t_ok rfl h0) (allApp (e9f_ok rfl h1) (allApp (e9t_ok rfl h2) (allApp (e9t_ok rfl h3) (allApp (e9t_ok rfl h4) (allApp (e9t_ok rfl h6) (allApp (e9f_ok rfl h8) ibNil))))))))).tab
theorem L_law_18_run : okTrue (@call (T_L_law_18 b h0 h1 h2 h3 h4 h6 h8) Tryz.prog ((inHand C_Read2_1).or ((inHand C_Read3_1).or ((H_access_k_true).or ((H_access_f_true).or H_CF0a)))) 5000 3 [.oi 0, .oi 1, .oi 2, .oi 3] H.empty) = true := (by as_aux_lemma => kernel_rfl)
end
theorem L_law_18 {m c f k : Nat} (b : Bd m c f k) (h0 : vA c 512 = (0)) (h1 : ¬ vA k 1024 = (0)) (h2 : vN c 1585 = (0)) (h3 : vA c 16 = (0)) (h4 : vN f 31 = (0)) (h5 : acc f = true) (h6 : vN k 1055 = (0)) (h7 : acc k = true) (h8 : ¬ vA k 26 = (0)) (h9 : @InOk Tryz.prog C_Read3_1 (TB m c f k)) (h10 : @InOk Tryz.prog C_Read2_1 (TB m c f k)) (w : World) : Gives m c f k w := by
  letI : Tab := (T_L_law_18 b h0 h1 h2 h3 h4 h6 h8)
  obtain ⟨q_, hq_⟩ := CallOk.of_okTrue (P := Tryz.prog) mixed (HandOk.or (inHand_ok (InOk.tab (VRows.same _ _) h10) (by kernel_rfl)) (HandOk.or (inHand_ok (InOk.tab (VRows.same _ _) h9) (by kernel_rfl)) (HandOk.or (H_access_k_true_ok b h7 (VRows.same _ _)) (HandOk.or (H_access_f_true_ok b h5 (VRows.same _ _)) H_CF0a_ok)))) (L_law_18_run b h0 h1 h2 h3 h4 h6 h8)
  exact gives hq_ w rfl rfl rfl rfl rfl rfl
section
variable {m c f k : Nat} (b : Bd m c f k) (h0 : vA c 512 = (0)) (h1 : ¬ vA k 1024 = (0)) (h2 : vN c 1585 = (0)) (h3 : vA c 16 = (0)) (h4 : vN f 31 = (0)) (h6 : vN k 1055 = (0)) (h8 : vA k 26 = (0))
abbrev T_L_law_19 : Tab := (RC b (e9t 4 (0) ++ (e9f 5 (0) ++ (e9t 6 (0) ++ (e9t 7 (0) ++ (e9t 8 (0) ++ (e9t 10 (0) ++ (e9t 73 (0) ++ ([])))))))) (by letI := Tab.empty; exact (allApp (e9t_ok rfl h0) (allApp (e9f_ok rfl h1) (allApp (e9t_ok rfl h2) (allApp (e9t_ok rfl h3) (allApp (e9t_ok rfl h4) (allApp (e9t_ok rfl h6) (allApp (e9t_ok rfl h8) ibNil))))))))).tab
theorem L_law_19_run : okTrue (@call (T_L_law_19 b h0 h1 h2 h3 h4 h6 h8) Tryz.prog ((inHand C_Read2_2).or ((inHand C_Read3_2).or ((H_access_k_true).or ((H_access_f_true).or H_CF0a)))) 5000 3 [.oi 0, .oi 1, .oi 2, .oi 3] H.empty) = true := (by as_aux_lemma => kernel_rfl)
end
theorem L_law_19 {m c f k : Nat} (b : Bd m c f k) (h0 : vA c 512 = (0)) (h1 : ¬ vA k 1024 = (0)) (h2 : vN c 1585 = (0)) (h3 : vA c 16 = (0)) (h4 : vN f 31 = (0)) (h5 : acc f = true) (h6 : vN k 1055 = (0)) (h7 : acc k = true) (h8 : vA k 26 = (0)) (h9 : @InOk Tryz.prog C_Read3_2 (TB m c f k)) (h10 : @InOk Tryz.prog C_Read2_2 (TB m c f k)) (w : World) : Gives m c f k w := by
  letI : Tab := (T_L_law_19 b h0 h1 h2 h3 h4 h6 h8)
  obtain ⟨q_, hq_⟩ := CallOk.of_okTrue (P := Tryz.prog) mixed (HandOk.or (inHand_ok (InOk.tab (VRows.same _ _) h10) (by kernel_rfl)) (HandOk.or (inHand_ok (InOk.tab (VRows.same _ _) h9) (by kernel_rfl)) (HandOk.or (H_access_k_true_ok b h7 (VRows.same _ _)) (HandOk.or (H_access_f_true_ok b h5 (VRows.same _ _)) H_CF0a_ok)))) (L_law_19_run b h0 h1 h2 h3 h4 h6 h8)
  exact gives hq_ w rfl rfl rfl rfl rfl rfl
section
variable {m c f k : Nat} (b : Bd m c f k) (h0 : vA c 512 = (0)) (h1 : vA k 1024 = (0)) (h2 : vN c 1585 = (0)) (h3 : vA c 16 = (0)) (h4 : vN f 31 = (0)) (h6 : ¬ vN k 1055 = (0))
abbrev T_L_law_20 : Tab := (RC b (e9t 4 (0) ++ (e9t 5 (0) ++ (e9t 6 (0) ++ (e9t 7 (0) ++ (e9t 8 (0) ++ (e9f 10 (0) ++ ([]))))))) (by letI := Tab.empty; exact (allApp (e9t_ok rfl h0) (allApp (e9t_ok rfl h1) (allApp (e9t_ok rfl h2) (allApp (e9t_ok rfl h3) (allApp (e9t_ok rfl h4) (allApp (e9f_ok rfl h6) ibNil)))))))).tab
theorem L_law_20_run : okTrue (@call (T_L_law_20 b h0 h1 h2 h3 h4 h6) Tryz.prog ((inHand C_Read4_0).or ((inHand C_Read1_1).or ((H_access_f_true).or H_CF0a))) 5000 3 [.oi 0, .oi 1, .oi 2, .oi 3] H.empty) = true := (by as_aux_lemma => kernel_rfl)
end
theorem L_law_20 {m c f k : Nat} (b : Bd m c f k) (h0 : vA c 512 = (0)) (h1 : vA k 1024 = (0)) (h2 : vN c 1585 = (0)) (h3 : vA c 16 = (0)) (h4 : vN f 31 = (0)) (h5 : acc f = true) (h6 : ¬ vN k 1055 = (0)) (h7 : @InOk Tryz.prog C_Read1_1 (TB m c f k)) (h8 : @InOk Tryz.prog C_Read4_0 (TB m c f k)) (w : World) : Gives m c f k w := by
  letI : Tab := (T_L_law_20 b h0 h1 h2 h3 h4 h6)
  obtain ⟨q_, hq_⟩ := CallOk.of_okTrue (P := Tryz.prog) mixed (HandOk.or (inHand_ok (InOk.tab (VRows.same _ _) h8) (by kernel_rfl)) (HandOk.or (inHand_ok (InOk.tab (VRows.same _ _) h7) (by kernel_rfl)) (HandOk.or (H_access_f_true_ok b h5 (VRows.same _ _)) H_CF0a_ok))) (L_law_20_run b h0 h1 h2 h3 h4 h6)
  exact gives hq_ w rfl rfl rfl rfl rfl rfl
section
variable {m c f k : Nat} (b : Bd m c f k) (h0 : vA c 512 = (0)) (h1 : vA k 1024 = (0)) (h2 : vN c 1585 = (0)) (h3 : vA c 16 = (0)) (h4 : vN f 31 = (0)) (h6 : ¬ vN k 1055 = (0))
abbrev T_L_law_21 : Tab := (RC b (e9t 4 (0) ++ (e9t 5 (0) ++ (e9t 6 (0) ++ (e9t 7 (0) ++ (e9t 8 (0) ++ (e9f 10 (0) ++ ([]))))))) (by letI := Tab.empty; exact (allApp (e9t_ok rfl h0) (allApp (e9t_ok rfl h1) (allApp (e9t_ok rfl h2) (allApp (e9t_ok rfl h3) (allApp (e9t_ok rfl h4) (allApp (e9f_ok rfl h6) ibNil)))))))).tab
theorem L_law_21_run : okTrue (@call (T_L_law_21 b h0 h1 h2 h3 h4 h6) Tryz.prog ((inHand C_Read4_1).or ((inHand C_Read1_2).or ((H_access_f_true).or H_CF0a))) 5000 3 [.oi 0, .oi 1, .oi 2, .oi 3] H.empty) = true := (by as_aux_lemma => kernel_rfl)
end
theorem L_law_21 {m c f k : Nat} (b : Bd m c f k) (h0 : vA c 512 = (0)) (h1 : vA k 1024 = (0)) (h2 : vN c 1585 = (0)) (h3 : vA c 16 = (0)) (h4 : vN f 31 = (0)) (h5 : acc f = true) (h6 : ¬ vN k 1055 = (0)) (h7 : @InOk Tryz.prog C_Read1_2 (TB m c f k)) (h8 : @InOk Tryz.prog C_Read4_1 (TB m c f k)) (w : World) : Gives m c f k w := by
  letI : Tab := (T_L_law_21 b h0 h1 h2 h3 h4 h6)
  obtain ⟨q_, hq_⟩ := CallOk.of_okTrue (P := Tryz.prog) mixed (HandOk.or (inHand_ok (InOk.tab (VRows.same _ _) h8) (by kernel_rfl)) (HandOk.or (inHand_ok (InOk.tab (VRows.same _ _) h7) (by kernel_rfl)) (HandOk.or (H_access_f_true_ok b h5 (VRows.same _ _)) H_CF0a_ok))) (L_law_21_run b h0 h1 h2 h3 h4 h6)
  exact gives hq_ w rfl rfl rfl rfl rfl rfl
section
variable {m c f k : Nat} (b : Bd m c f k) (h0 : vA c 512 = (0)) (h1 : vA k 1024 = (0)) (h2 : vN c 1585 = (0)) (h3 : vA c 16 = (0)) (h4 : vN f 31 = (0)) (h6 : vN k 1055 = (0))
abbrev T_L_law_22 : Tab := (RC b (e9t 4 (0) ++ (e9t 5 (0) ++ (e9t 6 (0) ++ (e9t 7 (0) ++ (e9t 8 (0) ++ (e9t 10 (0) ++ ([]))))))) (by letI := Tab.empty; exact (allApp (e9t_ok rfl h0) (allApp (e9t_ok rfl h1) (allApp (e9t_ok rfl h2) (allApp (e9t_ok rfl h3) (allApp (e9t_ok rfl h4) (allApp (e9t_ok rfl h6) ibNil)))))))).tab
theorem L_law_22_run : okTrue (@call (T_L_law_22 b h0 h1 h2 h3 h4 h6) Tryz.prog ((inHand C_Read4_0).or ((inHand C_Read1_1).or ((H_access_k_false).or ((H_access_f_true).or H_CF0a)))) 5000 3 [.oi 0, .oi 1, .oi 2, .oi 3] H.empty) = true := (by as_aux_lemma => kernel_rfl)
end
theorem L_law_22 {m c f k : Nat} (b : Bd m c f k) (h0 : vA c 512 = (0)) (h1 : vA k 1024 = (0)) (h2 : vN c 1585 = (0)) (h3 : vA c 16 = (0)) (h4 : vN f 31 = (0)) (h5 : acc f = true) (h6 : vN k 1055 = (0)) (h7 : acc k = false) (h8 : @InOk Tryz.prog C_Read1_1 (TB m c f k)) (h9 : @InOk Tryz.prog C_Read4_0 (TB m c f k)) (w : World) : Gives m c f k w := by
  letI : Tab := (T_L_law_22 b h0 h1 h2 h3 h4 h6)
  obtain ⟨q_, hq_⟩ := CallOk.of_okTrue (P := Tryz.prog) mixed (HandOk.or (inHand_ok (InOk.tab (VRows.same _ _) h9) (by kernel_rfl)) (HandOk.or (inHand_ok (InOk.tab (VRows.same _ _) h8) (by kernel_rfl)) (HandOk.or (H_access_k_false_ok b h7 (VRows.same _ _)) (HandOk.or (H_access_f_true_ok b h5 (VRows.same _ _)) H_CF0a_ok)))) (L_law_22_run b h0 h1 h2 h3 h4 h6)
  exact gives hq_ w rfl rfl rfl rfl rfl rfl
section
variable {m c f k : Nat} (b : Bd m c f k) (h0 : ¬ vA c 512 = (0)) (h1 : vA k 1024 = (0)) (h2 : vN c 1585 = (0)) (h3 : ¬ vA c 16 = (0)) (h4 : vA c 1024 = (0))
abbrev T_L_law_23 : Tab := (RC b (e9f 4 (0) ++ (e9t 5 (0) ++ (e9t 6 (0) ++ (e9f 7 (0) ++ (e9t 25 (0) ++ ([])))))) (by letI := Tab.empty; exact (allApp (e9f_ok rfl h0) (allApp (e9t_ok rfl h1) (allApp (e9t_ok rfl h2) (allApp (e9f_ok rfl h3) (allApp (e9t_ok rfl h4) ibNil))))))).tab
theorem L_law_23_run : okTrue (@call (T_L_law_23 b h0 h1 h2 h3 h4) Tryz.prog ((inHand C_Read0_0).or ((inHand C_Read1_0).or H_CF0a)) 5000 3 [.oi 0, .oi 1, .oi 2, .oi 3] H.empty) = true := (by as_aux_lemma => kernel_rfl)
end
theorem L_law_23 {m c f k : Nat} (b : Bd m c f k) (h0 : ¬ vA c 512 = (0)) (h1 : vA k 1024 = (0)) (h2 : vN c 1585 = (0)) (h3 : ¬ vA c 16 = (0)) (h4 : vA c 1024 = (0)) (h5 : @InOk Tryz.prog C_Read1_0 (TB m c f k)) (h6 : @InOk Tryz.prog C_Read0_0 (TB m c f k)) (w : World) : Gives m c f k w := by
  letI : Tab := (T_L_law_23 b h0 h1 h2 h3 h4)
  obtain ⟨q_, hq_⟩ := CallOk.of_okTrue (P := Tryz.prog) mixed (HandOk.or (inHand_ok (InOk.tab (VRows.same _ _) h6) (by kernel_rfl)) (HandOk.or (inHand_ok (InOk.tab (VRows.same _ _) h5) (by kernel_rfl)) H_CF0a_ok)) (L_law_23_run b h0 h1 h2 h3 h4)
  exact gives hq_ w rfl rfl rfl rfl rfl rfl
section
variable {m c f k : Nat} (b : Bd m c f k) (h0 : vA c 512 = (0)) (h1 : vA k 1024 = (0)) (h2 : vN c 1585 = (0)) (h3 : ¬ vA c 16 = (0)) (h4 : vA c 1024 = (0)) (h5 : vN f 31 = (0)) (h7 : vN k 1055 = (0))
abbrev T_L_law_24 : Tab := (RC b (e9t 4 (0) ++ (e9t 5 (0) ++ (e9t 6 (0) ++ (e9f 7 (0) ++ (e9t 25 (0) ++ (e9t 8 (0) ++ (e9t 10 (0) ++ ([])))))))) (by letI := Tab.empty; exact (allApp (e9t_ok rfl h0) (allApp (e9t_ok rfl h1) (allApp (e9t_ok rfl h2) (allApp (e9f_ok rfl h3) (allApp (e9t_ok rfl h4) (allApp (e9t_ok rfl h5) (allApp (e9t_ok rfl h7) ibNil))))))))).tab
theorem L_law_24_run : okTrue (@call (T_L_law_24 b h0 h1 h2 h3 h4 h5 h7) Tryz.prog ((inHand C_Read5_1).or ((inHand C_Read1_5).or ((H_access_k_true).or ((H_access_f_true).or H_CF0a)))) 5000 3 [.oi 0, .oi 1, .oi 2, .oi 3] H.empty) = true := (by as_aux_lemma => kernel_rfl)
end
theorem L_law_24 {m c f k : Nat} (b : Bd m c f k) (h0 : vA c 512 = (0)) (h1 : vA k 1024 = (0)) (h2 : vN c 1585 = (0)) (h3 : ¬ vA c 16 = (0)) (h4 : vA c 1024 = (0)) (h5 : vN f 31 = (0)) (h6 : acc f = true) (h7 : vN k 1055 = (0)) (h8 : acc k = true) (h9 : @InOk Tryz.prog C_Read1_5 (TB m c f k)) (h10 : @InOk Tryz.prog C_Read5_1 (TB m c f k)) (w : World) : Gives m c f k w := by
  letI : Tab := (T_L_law_24 b h0 h1 h2 h3 h4 h5 h7)
  obtain ⟨q_, hq_⟩ := CallOk.of_okTrue (P := Tryz.prog) mixed (HandOk.or (inHand_ok (InOk.tab (VRows.same _ _) h10) (by kernel_rfl)) (HandOk.or (inHand_ok (InOk.tab (VRows.same _ _) h9) (by kernel_rfl)) (HandOk.or (H_access_k_true_ok b h8 (VRows.same _ _)) (HandOk.or (H_access_f_true_ok b h6 (VRows.same _ _)) H_CF0a_ok)))) (L_law_24_run b h0 h1 h2 h3 h4 h5 h7)
  exact gives hq_ w rfl rfl rfl rfl rfl rfl
section
variable {m c f k : Nat} (b : Bd m c f k) (h0 : vA c 512 = (0)) (h1 : ¬ vA k 1024 = (0)) (h2 : vN c 1585 = (0)) (h3 : ¬ vA c 16 = (0)) (h4 : vA c 1024 = (0)) (h5 : vN f 31 = (0)) (h7 : ¬ vN k 1055 = (0))
abbrev T_L_law_25 : Tab := (RC b (e9t 4 (0) ++ (e9f 5 (0) ++ (e9t 6 (0) ++ (e9f 7 (0) ++ (e9t 25 (0) ++ (e9t 8 (0) ++ (e9f 10 (0) ++ ([])))))))) (by letI := Tab.empty; exact (allApp (e9t_ok rfl h0) (allApp (e9f_ok rfl h1) (allApp (e9t_ok rfl h2) (allApp (e9f_ok rfl h3) (allApp (e9t_ok rfl h4) (allApp (e9t_ok rfl h5) (allApp (e9f_ok rfl h7) ibNil))))))))).tab
theorem L_law_25_run : okTrue (@call (T_L_law_25 b h0 h1 h2 h3 h4 h5 h7) Tryz.prog ((inHand C_Read2_0).or ((inHand C_Read3_0).or ((H_access_f_true).or H_CF0a))) 5000 3 [.oi 0, .oi 1, .oi 2, .oi 3] H.empty) = true := (by as_aux_lemma => kernel_rfl)
end
theorem L_law_25 {m c f k : Nat} (b : Bd m c f k) (h0 : vA c 512 = (0)) (h1 : ¬ vA k 1024 = (0)) (h2 : vN c 1585 = (0)) (h3 : ¬ vA c 16 = (0)) (h4 : vA c 1024 = (0)) (h5 : vN f 31 = (0)) (h6 : acc f = true) (h7 : ¬ vN k 1055 = (0)) (h8 : @InOk Tryz.prog C_Read3_0 (TB m c f k)) (h9 : @InOk Tryz.prog C_Read2_0 (TB m c f k)) (w : World) : Gives m c f k w := by
  letI : Tab := (T_L_law_25 b h0 h1 h2 h3 h4 h5 h7)
  obtain ⟨q_, hq_⟩ := CallOk.of_okTrue (P := Tryz.prog) mixed (HandOk.or (inHand_ok (InOk.tab (VRows.same _ _) h9) (by kernel_rfl)) (HandOk.or (inHand_ok (InOk.tab (VRows.same _ _) h8) (by kernel_rfl)) (HandOk.or (H_access_f_true_ok b h6 (VRows.same _ _)) H_CF0a_ok))) (L_law_25_run b h0 h1 h2 h3 h4 h5 h7)
  exact gives hq_ w rfl rfl rfl rfl rfl rfl
section
variable {m c f k : Nat} (b : Bd m c f k) (h0 : vA c 512 = (0)) (h1 : ¬ vA k 1024 = (0)) (h2 : vN c 1585 = (0)) (h3 : ¬ vA c 16 = (0)) (h4 : vA c 1024 = (0)) (h5 : vN f 31 = (0)) (h7 : ¬ vN k 1055 = (0))
abbrev T_L_law_26 : Tab := (RC b (e9t 4 (0) ++ (e9f 5 (0) ++ (e9t 6 (0) ++ (e9f 7 (0) ++ (e9t 25 (0) ++ (e9t 8 (0) ++ (e9f 10 (0) ++ ([])))))))) (by letI := Tab.empty; exact (allApp (e9t_ok rfl h0) (allApp (e9f_ok rfl h1) (allApp (e9t_ok rfl h2) (allApp (e9f_ok rfl h3) (allApp (e9t_ok rfl h4) (allApp (e9t_ok rfl h5) (allApp (e9f_ok rfl h7) ibNil))))))))).tab
theorem L_law_26_run : okTrue (@call (T_L_law_26 b h0 h1 h2 h3 h4 h5 h7) Tryz.prog ((inHand C_Read2_1).or ((inHand C_Read3_1).or ((H_access_f_true).or H_CF0a))) 5000 3 [.oi 0, .oi 1, .oi 2, .oi 3] H.empty) = true := (by as_aux_lemma => kernel_rfl)
end
theorem L_law_26 {m c f k : Nat} (b : Bd m c f k) (h0 : vA c 512 = (0)) (h1 : ¬ vA k 1024 = (0)) (h2 : vN c 1585 = (0)) (h3 : ¬ vA c 16 = (0)) (h4 : vA c 1024 = (0)) (h5 : vN f 31 = (0)) (h6 : acc f = true) (h7 : ¬ vN k 1055 = (0)) (h8 : @InOk Tryz.prog C_Read3_1 (TB m c f k)) (h9 : @InOk Tryz.prog C_Read2_1 (TB m c f k)) (w : World) : Gives m c f k w := by
  letI : Tab := (T_L_law_26 b h0 h1 h2 h3 h4 h5 h7)
  obtain ⟨q_, hq_⟩ := CallOk.of_okTrue (P := Tryz.prog) mixed (HandOk.or (inHand_ok (InOk.tab (VRows.same _ _) h9) (by kernel_rfl)) (HandOk.or (inHand_ok (InOk.tab (VRows.same _ _) h8) (by kernel_rfl)) (HandOk.or (H_access_f_true_ok b h6 (VRows.same _ _)) H_CF0a_ok))) (L_law_26_run b h0 h1 h2 h3 h4 h5 h7)
  exact gives hq_ w rfl rfl rfl rfl rfl rfl
section
variable {m c f k : Nat} (b : Bd m c f k) (h0 : vA c 512 = (0)) (h1 : ¬ vA k 1024 = (0)) (h2 : vN c 1585 = (0)) (h3 : ¬ vA c 16 = (0)) (h4 : vA c 1024 = (0)) (h5 : vN f 31 = (0)) (h7 : vN k 1055 = (0))
abbrev T_L_law_27 : Tab := (RC b (e9t 4 (0) ++ (e9f 5 (0) ++ (e9t 6 (0) ++ (e9f 7 (0) ++ (e9t 25 (0) ++ (e9t 8 (0) ++ (e9t 10 (0) ++ ([])))))))) (by letI := Tab.empty; exact (allApp (e9t_ok rfl h0) (allApp (e9f_ok rfl h1) (allApp (e9t_ok rfl h2) (allApp (e9f_ok rfl h3) (allApp (e9t_ok rfl h4) (allApp (e9t_ok rfl h5) (allApp (e9t_ok rfl h7) ibNil))))))))).tab
theorem L_law_27_run : okTrue (@call (T_L_law_27 b h0 h1 h2 h3 h4 h5 h7) Tryz.prog ((inHand C_Read2_0).or ((inHand C_Read3_0).or ((H_access_k_false).or ((H_access_f_true).or H_CF0a)))) 5000 3 [.oi 0, .oi 1, .oi 2, .oi 3] H.empty) = true := (by as_aux_lemma => kernel_rfl)
end
theorem L_law_27 {m c f k : Nat} (b : Bd m c f k) (h0 : vA c 512 = (0)) (h1 : ¬ vA k 1024 = (0)) (h2 : vN c 1585 = (0)) (h3 : ¬ vA c 16 = (0)) (h4 : vA c 1024 = (0)) (h5 : vN f 31 = (0)) (h6 : acc f = true) (h7 : vN k 1055 = (0)) (h8 : acc k = false) (h9 : @InOk Tryz.prog C_Read3_0 (TB m c f k)) (h10 : @InOk Tryz.prog C_Read2_0 (TB m c f k)) (w : World) : Gives m c f k w := by
  letI : Tab := (T_L_law_27 b h0 h1 h2 h3 h4 h5 h7)
  obtain ⟨q_, hq_⟩ := CallOk.of_okTrue (P := Tryz.prog) mixed (HandOk.or (inHand_ok (InOk.tab (VRows.same _ _) h10) (by kernel_rfl)) (HandOk.or (inHand_ok (InOk.tab (VRows.same _ _) h9) (by kernel_rfl)) (HandOk.or (H_access_k_false_ok b h8 (VRows.same _ _)) (HandOk.or (H_access_f_true_ok b h6 (VRows.same _ _)) H_CF0a_ok)))) (L_law_27_run b h0 h1 h2 h3 h4 h5 h7)
  exact gives hq_ w rfl rfl rfl rfl rfl rfl
section
variable {m c f k : Nat} (b : Bd m c f k) (h0 : vA c 512 = (0)) (h1 : ¬ vA k 1024 = (0)) (h2 : vN c 1585 = (0)) (h3 : ¬ vA c 16 = (0)) (h4 : vA c 1024 = (0)) (h5 : vN f 31 = (0)) (h7 : vN k 1055 = (0)) (h9 : ¬ vA k 26 = (0))
abbrev T_L_law_28 : Tab := (RC b (e9t 4 (0) ++ (e9f 5 (0) ++ (e9t 6 (0) ++ (e9f 7 (0) ++ (e9t 25 (0) ++ (e9t 8 (0) ++ (e9t 10 (0) ++ (e9f 73 (0) ++ ([]))))))))) (by letI := Tab.empty; exact (allApp (e9t_ok rfl h0) (allApp (e9f_ok rfl h1) (allApp (e9t_ok rfl h2) (allApp (e9f_ok rfl h3) (allApp (e9t_ok rfl h4) (allApp (e9t_ok rfl h5) (allApp (e9t_ok rfl h7) (allApp (e9f_ok rfl h9) ibNil)))))))))).tab
theorem L_law_28_run : okTrue (@call (T_L_law_28 b h0 h1 h2 h3 h4 h5 h7 h9) Tryz.prog ((inHand C_Read2_1).or ((inHand C_Read3_1).or ((H_access_k_true).or ((H_access_f_true).or H_CF0a)))) 5000 3 [.oi 0, .oi 1, .oi 2, .oi 3] H.empty) = true := (by as_aux_lemma => kernel_rfl)
end
theorem L_law_28 {m c f k : Nat} (b : Bd m c f k) (h0 : vA c 512 = (0)) (h1 : ¬ vA k 1024 = (0)) (h2 : vN c 1585 = (0)) (h3 : ¬ vA c 16 = (0)) (h4 : vA c 1024 = (0)) (h5 : vN f 31 = (0)) (h6 : acc f = true) (h7 : vN k 1055 = (0)) (h8 : acc k = true) (h9 : ¬ vA k 26 = (0)) (h10 : @InOk Tryz.prog C_Read3_1 (TB m c f k)) (h11 : @InOk Tryz.prog C_Read2_1 (TB m c f k)) (w : World) : Gives m c f k w := by
  letI : Tab := (T_L_law_28 b h0 h1 h2 h3 h4 h5 h7 h9)
  obtain ⟨q_, hq_⟩ := CallOk.of_okTrue (P := Tryz.prog) mixed (HandOk.or (inHand_ok (InOk.tab (VRows.same _ _) h11) (by kernel_rfl)) (HandOk.or (inHand_ok (InOk.tab (VRows.same _ _) h10) (by kernel_rfl)) (HandOk.or (H_access_k_true_ok b h8 (VRows.same _ _)) (HandOk.or (H_access_f_true_ok b h6 (VRows.same _ _)) H_CF0a_ok)))) (L_law_28_run b h0 h1 h2 h3 h4 h5 h7 h9)
  exact gives hq_ w rfl rfl rfl rfl rfl rfl
section
variable {m c f k : Nat} (b : Bd m c f k) (h0 : vA c 512 = (0)) (h1 : ¬ vA k 1024 = (0)) (h2 : vN c 1585 = (0)) (h3 : ¬ vA c 16 = (0)) (h4 : vA c 1024 = (0)) (h5 : vN f 31 = (0)) (h7 : vN k 1055 = (0)) (h9 : ¬ vA k 26 = (0))
abbrev T_L_law_29 : Tab := (RC b (e9t 4 (0) ++ (e9f 5 (0) ++ (e9t 6 (0) ++ (e9f 7 (0) ++ (e9t 25 (0) ++ (e9t 8 (0) ++ (e9t 10 (0) ++ (e9f 73 (0) ++ ([]))))))))) (by letI := Tab.empty; exact (allApp (e9t_ok rfl h0) (allApp (e9f_ok rfl h1) (allApp (e9t_ok rfl h2) (allApp (e9f_ok rfl h3) (allApp (e9t_ok rfl h4) (allApp (e9t_ok rfl h5) (allApp (e9t_ok rfl h7) (allApp (e9f_ok rfl h9) ibNil)))))))))).tab
theorem L_law_29_run : okTrue (@call (T_L_law_29 b h0 h1 h2 h3 h4 h5 h7 h9) Tryz.prog ((inHand C_Read2_0).or ((inHand C_Read3_0).or ((H_access_k_true).or ((H_access_f_true).or H_CF0a)))) 5000 3 [.oi 0, .oi 1, .oi 2, .oi 3] H.empty) = true := (by as_aux_lemma => kernel_rfl)
end
theorem L_law_29 {m c f k : Nat} (b : Bd m c f k) (h0 : vA c 512 = (0)) (h1 : ¬ vA k 1024 = (0)) (h2 : vN c 1585 = (0)) (h3 : ¬ vA c 16 = (0)) (h4 : vA c 1024 = (0)) (h5 : vN f 31 = (0)) (h6 : acc f = true) (h7 : vN k 1055 = (0)) (h8 : acc k = true) (h9 : ¬ vA k 26 = (0)) (h10 : @InOk Tryz.prog C_Read3_0 (TB m c f k)) (h11 : @InOk Tryz.prog C_Read2_0 (TB m c f k)) (w : World) : Gives m c f k w := by
  letI : Tab := (T_L_law_29 b h0 h1 h2 h3 h4 h5 h7 h9)
  obtain ⟨q_, hq_⟩ := CallOk.of_okTrue (P := Tryz.prog) mixed (HandOk.or (inHand_ok (InOk.tab (VRows.same _ _) h11) (by kernel_rfl)) (HandOk.or (inHand_ok (InOk.tab (VRows.same _ _) h10) (by kernel_rfl)) (HandOk.or (H_access_k_true_ok b h8 (VRows.same _ _)) (HandOk.or (H_access_f_true_ok b h6 (VRows.same _ _)) H_CF0a_ok)))) (L_law_29_run b h0 h1 h2 h3 h4 h5 h7 h9)
  exact gives hq_ w rfl rfl rfl rfl rfl rfl
section
variable {m c f k : Nat} (b : Bd m c f k) (h0 : vA c 512 = (0)) (h1 : ¬ vA k 1024 = (0)) (h2 : vN c 1585 = (0)) (h3 : ¬ vA c 16 = (0)) (h4 : vA c 1024 = (0)) (h5 : vN f 31 = (0)) (h7 : vN k 1055 = (0)) (h9 : vA k 26 = (0))
abbrev T_L_law_30 : Tab := (RC b (e9t 4 (0) ++ (e9f 5 (0) ++ (e9t 6 (0) ++ (e9f 7 (0) ++ (e9t 25 (0) ++ (e9t 8 (0) ++ (e9t 10 (0) ++ (e9t 73 (0) ++ ([]))))))))) (by letI := Tab.empty; exact (allApp (e9t_ok rfl h0) (allApp (e9f_ok rfl h1) (allApp (e9t_ok rfl h2) (allApp (e9f_ok rfl h3) (allApp (e9t_ok rfl h4) (allApp (e9t_ok rfl h5) (allApp (e9t_ok rfl h7) (allApp (e9t_ok rfl h9) ibNil)))))))))).tab
theorem L_law_30_run : okTrue (@call (T_L_law_30 b h0 h1 h2 h3 h4 h5 h7 h9) Tryz.prog ((inHand C_Read2_2).or ((inHand C_Read3_2).or ((H_access_k_true).or ((H_access_f_true).or H_CF0a)))) 5000 3 [.oi 0, .oi 1, .oi 2, .oi 3] H.empty) = true := (by as_aux_lemma => kernel_rfl)
end
theorem L_law_30 {m c f k : Nat} (b : Bd m c f k) (h0 : vA c 512 = (0)) (h1 : ¬ vA k 1024 = (0)) (h2 : vN c 1585 = (0)) (h3 : ¬ vA c 16 = (0)) (h4 : vA c 1024 = (0)) (h5 : vN f 31 = (0)) (h6 : acc f = true) (h7 : vN k 1055 = (0)) (h8 : acc k = true) (h9 : vA k 26 = (0)) (h10 : @InOk Tryz.prog C_Read3_2 (TB m c f k)) (h11 : @InOk Tryz.prog C_Read2_2 (TB m c f k)) (w : World) : Gives m c f k w := by
  letI : Tab := (T_L_law_30 b h0 h1 h2 h3 h4 h5 h7 h9)
  obtain ⟨q_, hq_⟩ := CallOk.of_okTrue (P := Tryz.prog) mixed (HandOk.or (inHand_ok (InOk.tab (VRows.same _ _) h11) (by kernel_rfl)) (HandOk.or (inHand_ok (InOk.tab (VRows.same _ _) h10) (by kernel_rfl)) (HandOk.or (H_access_k_true_ok b h8 (VRows.same _ _)) (HandOk.or (H_access_f_true_ok b h6 (VRows.same _ _)) H_CF0a_ok)))) (L_law_30_run b h0 h1 h2 h3 h4 h5 h7 h9)
  exact gives hq_ w rfl rfl rfl rfl rfl rfl
section
variable {m c f k : Nat} (b : Bd m c f k) (h0 : vA c 512 = (0)) (h1 : vA k 1024 = (0)) (h2 : vN c 1585 = (0)) (h3 : ¬ vA c 16 = (0)) (h4 : vA c 1024 = (0)) (h5 : vN f 31 = (0)) (h7 : ¬ vN k 1055 = (0))
abbrev T_L_law_31 : Tab := (RC b (e9t 4 (0) ++ (e9t 5 (0) ++ (e9t 6 (0) ++ (e9f 7 (0) ++ (e9t 25 (0) ++ (e9t 8 (0) ++ (e9f 10 (0) ++ ([])))))))) (by letI := Tab.empty; exact (allApp (e9t_ok rfl h0) (allApp (e9t_ok rfl h1) (allApp (e9t_ok rfl h2) (allApp (e9f_ok rfl h3) (allApp (e9t_ok rfl h4) (allApp (e9t_ok rfl h5) (allApp (e9f_ok rfl h7) ibNil))))))))).tab
theorem L_law_31_run : okTrue (@call (T_L_law_31 b h0 h1 h2 h3 h4 h5 h7) Tryz.prog ((inHand C_Read4_1).or ((inHand C_Read1_2).or ((H_access_f_true).or H_CF0a))) 5000 3 [.oi 0, .oi 1, .oi 2, .oi 3] H.empty) = true := (by as_aux_lemma => kernel_rfl)
end
theorem L_law_31 {m c f k : Nat} (b : Bd m c f k) (h0 : vA c 512 = (0)) (h1 : vA k 1024 = (0)) (h2 : vN c 1585 = (0)) (h3 : ¬ vA c 16 = (0)) (h4 : vA c 1024 = (0)) (h5 : vN f 31 = (0)) (h6 : acc f = true) (h7 : ¬ vN k 1055 = (0)) (h8 : @InOk Tryz.prog C_Read1_2 (TB m c f k)) (h9 : @InOk Tryz.prog C_Read4_1 (TB m c f k)) (w : World) : Gives m c f k w := by
  letI : Tab := (T_L_law_31 b h0 h1 h2 h3 h4 h5 h7)
  obtain ⟨q_, hq_⟩ := CallOk.of_okTrue (P := Tryz.prog) mixed (HandOk.or (inHand_ok (InOk.tab (VRows.same _ _) h9) (by kernel_rfl)) (HandOk.or (inHand_ok (InOk.tab (VRows.same _ _) h8) (by kernel_rfl)) (HandOk.or (H_access_f_true_ok b h6 (VRows.same _ _)) H_CF0a_ok))) (L_law_31_run b h0 h1 h2 h3 h4 h5 h7)
  exact gives hq_ w rfl rfl rfl rfl rfl rfl
section
variable {m c f k : Nat} (b : Bd m c f k) (h0 : vA c 512 = (0)) (h1 : vA k 1024 = (0)) (h2 : vN c 1585 = (0)) (h3 : ¬ vA c 16 = (0)) (h4 : vA c 1024 = (0)) (h5 : vN f 31 = (0)) (h7 : ¬ vN k 1055 = (0))
abbrev T_L_law_32 : Tab := (RC b (e9t 4 (0) ++ (e9t 5 (0) ++ (e9t 6 (0) ++ (e9f 7 (0) ++ (e9t 25 (0) ++ (e9t 8 (0) ++ (e9f 10 (0) ++ ([])))))))) (by letI := Tab.empty; exact (allApp (e9t_ok rfl h0) (allApp (e9t_ok rfl h1) (allApp (e9t_ok rfl h2) (allApp (e9f_ok rfl h3) (allApp (e9t_ok rfl h4) (allApp (e9t_ok rfl h5) (allApp (e9f_ok rfl h7) ibNil))))))))).tab
theorem L_law_32_run : okTrue (@call (T_L_law_32 b h0 h1 h2 h3 h4 h5 h7) Tryz.prog ((inHand C_Read4_0).or ((inHand C_Read1_1).or ((H_access_f_true).or H_CF0a))) 5000 3 [.oi 0, .oi 1, .oi 2, .oi 3] H.empty) = true := (by as_aux_lemma => kernel_rfl)
end
theorem L_law_32 {m c f k : Nat} (b : Bd m c f k) (h0 : vA c 512 = (0)) (h1 : vA k 1024 = (0)) (h2 : vN c 1585 = (0)) (h3 : ¬ vA c 16 = (0)) (h4 : vA c 1024 = (0)) (h5 : vN f 31 = (0)) (h6 : acc f = true) (h7 : ¬ vN k 1055 = (0)) (h8 : @InOk Tryz.prog C_Read1_1 (TB m c f k)) (h9 : @InOk Tryz.prog C_Read4_0 (TB m c f k)) (w : World) : Gives m c f k w := by
  letI : Tab := (T_L_law_32 b h0 h1 h2 h3 h4 h5 h7)
  obtain ⟨q_, hq_⟩ := CallOk.of_okTrue (P := Tryz.prog) mixed (HandOk.or (inHand_ok (InOk.tab (VRows.same _ _) h9) (by kernel_rfl)) (HandOk.or (inHand_ok (InOk.tab (VRows.same _ _) h8) (by kernel_rfl)) (HandOk.or (H_access_f_true_ok b h6 (VRows.same _ _)) H_CF0a_ok))) (L_law_32_run b h0 h1 h2 h3 h4 h5 h7)
  exact gives hq_ w rfl rfl rfl rfl rfl rfl
section
variable {m c f k : Nat} (b : Bd m c f k) (h0 : vA c 512 = (0)) (h1 : vA k 1024 = (0)) (h2 : vN c 1585 = (0)) (h3 : ¬ vA c 16 = (0)) (h4 : vA c 1024 = (0)) (h5 : vN f 31 = (0)) (h7 : vN k 1055 = (0))
abbrev T_L_law_33 : Tab := (RC b (e9t 4 (0) ++ (e9t 5 (0) ++ (e9t 6 (0) ++ (e9f 7 (0) ++ (e9t 25 (0) ++ (e9t 8 (0) ++ (e9t 10 (0) ++ ([])))))))) (by letI := Tab.empty; exact (allApp (e9t_ok rfl h0) (allApp (e9t_ok rfl h1) (allApp (e9t_ok rfl h2) (allApp (e9f_ok rfl h3) (allApp (e9t_ok rfl h4) (allApp (e9t_ok rfl h5) (allApp (e9t_ok rfl h7) ibNil))))))))).tab
theorem L_law_33_run : okTrue (@call (T_L_law_33 b h0 h1 h2 h3 h4 h5 h7) Tryz.prog ((inHand C_Read5_0).or ((inHand C_Read1_3).or ((H_access_k_true).or ((H_access_f_true).or H_CF0a)))) 5000 3 [.oi 0, .oi 1, .oi 2, .oi 3] H.empty) = true := (by as_aux_lemma => kernel_rfl)
end
theorem L_law_33 {m c f k : Nat} (b : Bd m c f k) (h0 : vA c 512 = (0)) (h1 : vA k 1024 = (0)) (h2 : vN c 1585 = (0)) (h3 : ¬ vA c 16 = (0)) (h4 : vA c 1024 = (0)) (h5 : vN f 31 = (0)) (h6 : acc f = true) (h7 : vN k 1055 = (0)) (h8 : acc k = true) (h9 : @InOk Tryz.prog C_Read1_3 (TB m c f k)) (h10 : @InOk Tryz.prog C_Read5_0 (TB m c f k)) (w : World) : Gives m c f k w := by
  letI : Tab := (T_L_law_33 b h0 h1 h2 h3 h4 h5 h7)
  obtain ⟨q_, hq_⟩ := CallOk.of_okTrue (P := Tryz.prog) mixed (HandOk.or (inHand_ok (InOk.tab (VRows.same _ _) h10) (by kernel_rfl)) (HandOk.or (inHand_ok (InOk.tab (VRows.same _ _) h9) (by kernel_rfl)) (HandOk.or (H_access_k_true_ok b h8 (VRows.same _ _)) (HandOk.or (H_access_f_true_ok b h6 (VRows.same _ _)) H_CF0a_ok)))) (L_law_33_run b h0 h1 h2 h3 h4 h5 h7)
  exact gives hq_ w rfl rfl rfl rfl rfl rfl
section
variable {m c f k : Nat} (b : Bd m c f k) (h0 : vA c 512 = (0)) (h1 : ¬ vA k 1024 = (0)) (h2 : vN c 1585 = (0)) (h3 : vA c 16 = (0)) (h4 : vN f 31 = (0)) (h6 : vN k 1055 = (0))
abbrev T_L_law_34 : Tab := (RC b (e9t 4 (0) ++ (e9f 5 (0) ++ (e9t 6 (0) ++ (e9t 7 (0) ++ (e9t 8 (0) ++ (e9t 10 (0) ++ ([]))))))) (by letI := Tab.empty; exact (allApp (e9t_ok rfl h0) (allApp (e9f_ok rfl h1) (allApp (e9t_ok rfl h2) (allApp (e9t_ok rfl h3) (allApp (e9t_ok rfl h4) (allApp (e9t_ok rfl h6) ibNil)))))))).tab
theorem L_law_34_run : okTrue (@call (T_L_law_34 b h0 h1 h2 h3 h4 h6) Tryz.prog ((inHand C_Read2_0).or ((inHand C_Read3_0).or ((H_access_k_false).or ((H_access_f_true).or H_CF0a)))) 5000 3 [.oi 0, .oi 1, .oi 2, .oi 3] H.empty) = true := (by as_aux_lemma => kernel_rfl)
end
theorem L_law_34 {m c f k : Nat} (b : Bd m c f k) (h0 : vA c 512 = (0)) (h1 : ¬ vA k 1024 = (0)) (h2 : vN c 1585 = (0)) (h3 : vA c 16 = (0)) (h4 : vN f 31 = (0)) (h5 : acc f = true) (h6 : vN k 1055 = (0)) (h7 : acc k = false) (h8 : @InOk Tryz.prog C_Read3_0 (TB m c f k)) (h9 : @InOk Tryz.prog C_Read2_0 (TB m c f k)) (w : World) : Gives m c f k w := by
  letI : Tab := (T_L_law_34 b h0 h1 h2 h3 h4 h6)
  obtain ⟨q_, hq_⟩ := CallOk.of_okTrue (P := Tryz.prog) mixed (HandOk.or (inHand_ok (InOk.tab (VRows.same _ _) h9) (by kernel_rfl)) (HandOk.or (inHand_ok (InOk.tab (VRows.same _ _) h8) (by kernel_rfl)) (HandOk.or (H_access_k_false_ok b h7 (VRows.same _ _)) (HandOk.or (H_access_f_true_ok b h5 (VRows.same _ _)) H_CF0a_ok)))) (L_law_34_run b h0 h1 h2 h3 h4 h6)
  exact gives hq_ w rfl rfl rfl rfl rfl rfl
section
variable {m c f k : Nat} (b : Bd m c f k) (h0 : vA c 512 = (0)) (h1 : vA k 1024 = (0)) (h2 : vN c 1585 = (0)) (h3 : vA c 16 = (0)) (h4 : vN f 31 = (0)) (h6 : vN k 1055 = (0))
abbrev T_L_law_35 : Tab := (RC b (e9t 4 (0) ++ (e9t 5 (0) ++ (e9t 6 (0) ++ (e9t 7 (0) ++ (e9t 8 (0) ++ (e9t 10 (0) ++ ([]))))))) (by letI := Tab.empty; exact (allApp (e9t_ok rfl h0) (allApp (e9t_ok rfl h1) (allApp (e9t_ok rfl h2) (allApp (e9t_ok rfl h3) (allApp (e9t_ok rfl h4) (allApp (e9t_ok rfl h6) ibNil)))))))).tab
theorem L_law_35_run : okTrue (@call (T_L_law_35 b h0 h1 h2 h3 h4 h6) Tryz.prog ((inHand C_Read5_0).or ((inHand C_Read1_3).or ((H_access_k_true).or ((H_access_f_true).or H_CF0a)))) 5000 3 [.oi 0, .oi 1, .oi 2, .oi 3] H.empty) = true := (by as_aux_lemma => kernel_rfl)
end
theorem L_law_35 {m c f k : Nat} (b : Bd m c f k) (h0 : vA c 512 = (0)) (h1 : vA k 1024 = (0)) (h2 : vN c 1585 = (0)) (h3 : vA c 16 = (0)) (h4 : vN f 31 = (0)) (h5 : acc f = true) (h6 : vN k 1055 = (0)) (h7 : acc k = true) (h8 : @InOk Tryz.prog C_Read1_3 (TB m c f k)) (h9 : @InOk Tryz.prog C_Read5_0 (TB m c f k)) (w : World) : Gives m c f k w := by
  letI : Tab := (T_L_law_35 b h0 h1 h2 h3 h4 h6)
  obtain ⟨q_, hq_⟩ := CallOk.of_okTrue (P := Tryz.prog) mixed (HandOk.or (inHand_ok (InOk.tab (VRows.same _ _) h9) (by kernel_rfl)) (HandOk.or (inHand_ok (InOk.tab (VRows.same _ _) h8) (by kernel_rfl)) (HandOk.or (H_access_k_true_ok b h7 (VRows.same _ _)) (HandOk.or (H_access_f_true_ok b h5 (VRows.same _ _)) H_CF0a_ok)))) (L_law_35_run b h0 h1 h2 h3 h4 h6)
  exact gives hq_ w rfl rfl rfl rfl rfl rfl
section
variable {m c f k : Nat} (b : Bd m c f k) (h0 : ¬ vA c 512 = (0)) (h1 : vA k 1024 = (0)) (h2 : vN c 1585 = (0)) (h3 : vA c 16 = (0)) (h4 : ¬ vA c 1024 = (0)) (h5 : (f : Int) = (25)) (h6 : vN k 1055 = (0)) (h8 : vA k 20 = (0)) (h9 : ¬ vA k 3 = (0)) (h10 : ¬ (m : Int) = (52)) (h11 : ¬ (k : Int) = (1025))
abbrev T_L_law_36 : Tab := (RC b (e9f 4 (0) ++ (e9t 5 (0) ++ (e9t 6 (0) ++ (e9t 7 (0) ++ (e9f 25 (0) ++ (e9t 2 (25) ++ (e9t 10 (0) ++ (e9t 74 (0) ++ (e9f 75 (0) ++ (e9f 0 (52) ++ (e9f 3 (1025) ++ ([])))))))))))) (by letI := Tab.empty; exact (allApp (e9f_ok rfl h0) (allApp (e9t_ok rfl h1) (allApp (e9t_ok rfl h2) (allApp (e9t_ok rfl h3) (allApp (e9f_ok rfl h4) (allApp (e9t_ok rfl h5) (allApp (e9t_ok rfl h6) (allApp (e9t_ok rfl h8) (allApp (e9f_ok rfl h9) (allApp (e9f_ok rfl h10) (allApp (e9f_ok rfl h11) ibNil))))))))))))).tab
theorem L_law_36_run : okTrue (@call (T_L_law_36 b h0 h1 h2 h3 h4 h5 h6 h8 h9 h10 h11) Tryz.prog ((inHand C_Read4_0).or ((inHand C_Read1_1).or ((H_access_k_true).or H_CF0a))) 5000 3 [.oi 0, .oi 1, .oi 2, .oi 3] H.empty) = true := (by as_aux_lemma => kernel_rfl)
end
theorem L_law_36 {m c f k : Nat} (b : Bd m c f k) (h0 : ¬ vA c 512 = (0)) (h1 : vA k 1024 = (0)) (h2 : vN c 1585 = (0)) (h3 : vA c 16 = (0)) (h4 : ¬ vA c 1024 = (0)) (h5 : (f : Int) = (25)) (h6 : vN k 1055 = (0)) (h7 : acc k = true) (h8 : vA k 20 = (0)) (h9 : ¬ vA k 3 = (0)) (h10 : ¬ (m : Int) = (52)) (h11 : ¬ (k : Int) = (1025)) (h12 : @InOk Tryz.prog C_Read1_1 (TB m c f k)) (h13 : @InOk Tryz.prog C_Read4_0 (TB m c f k)) (w : World) : Gives m c f k w := by
  letI : Tab := (T_L_law_36 b h0 h1 h2 h3 h4 h5 h6 h8 h9 h10 h11)
  obtain ⟨q_, hq_⟩ := CallOk.of_okTrue (P := Tryz.prog) mixed (HandOk.or (inHand_ok (InOk.tab (VRows.same _ _) h13) (by kernel_rfl)) (HandOk.or (inHand_ok (InOk.tab (VRows.same _ _) h12) (by kernel_rfl)) (HandOk.or (H_access_k_true_ok b h7 (VRows.same _ _)) H_CF0a_ok))) (L_law_36_run b h0 h1 h2 h3 h4 h5 h6 h8 h9 h10 h11)
  exact gives hq_ w rfl rfl rfl rfl rfl rfl
section
variable {m c f k : Nat} (b : Bd m c f k) (h0 : ¬ vA c 512 = (0)) (h1 : ¬ vA k 1024 = (0)) (h2 : ¬ vN c 1585 = (0))
abbrev T_L_law_37 : Tab := (RC b (e9f 4 (0) ++ (e9f 5 (0) ++ (e9f 6 (0) ++ ([])))) (by letI := Tab.empty; exact (allApp (e9f_ok rfl h0) (allApp (e9f_ok rfl h1) (allApp (e9f_ok rfl h2) ibNil))))).tab
theorem L_law_37_run : okTrue (@call (T_L_law_37 b h0 h1 h2) Tryz.prog ((inHand C_Read7_0).or ((inHand C_Read3_3).or H_CF0a)) 5000 3 [.oi 0, .oi 1, .oi 2, .oi 3] H.empty) = true := (by as_aux_lemma => kernel_rfl)
end
theorem L_law_37 {m c f k : Nat} (b : Bd m c f k) (h0 : ¬ vA c 512 = (0)) (h1 : ¬ vA k 1024 = (0)) (h2 : ¬ vN c 1585 = (0)) (h3 : @InOk Tryz.prog C_Read3_3 (TB m c f k)) (h4 : @InOk Tryz.prog C_Read7_0 (TB m c f k)) (w : World) : Gives m c f k w := by
  letI : Tab := (T_L_law_37 b h0 h1 h2)
  obtain ⟨q_, hq_⟩ := CallOk.of_okTrue (P := Tryz.prog) mixed (HandOk.or (inHand_ok (InOk.tab (VRows.same _ _) h4) (by kernel_rfl)) (HandOk.or (inHand_ok (InOk.tab (VRows.same _ _) h3) (by kernel_rfl)) H_CF0a_ok)) (L_law_37_run b h0 h1 h2)
  exact gives hq_ w rfl rfl rfl rfl rfl rfl
section
variable {m c f k : Nat} (b : Bd m c f k) (h0 : ¬ vA c 512 = (0)) (h1 : ¬ vA k 1024 = (0)) (h2 : vN c 1585 = (0)) (h3 : vA c 16 = (0)) (h4 : ¬ vA c 1024 = (0)) (h5 : (f : Int) = (25)) (h6 : vN k 1055 = (0)) (h8 : ¬ vA k 26 = (0))
abbrev T_L_law_38 : Tab := (RC b (e9f 4 (0) ++ (e9f 5 (0) ++ (e9t 6 (0) ++ (e9t 7 (0) ++ (e9f 25 (0) ++ (e9t 2 (25) ++ (e9t 10 (0) ++ (e9f 73 (0) ++ ([]))))))))) (by letI := Tab.empty; exact (allApp (e9f_ok rfl h0) (allApp (e9f_ok rfl h1) (allApp (e9t_ok rfl h2) (allApp (e9t_ok rfl h3) (allApp (e9f_ok rfl h4) (allApp (e9t_ok rfl h5) (allApp (e9t_ok rfl h6) (allApp (e9f_ok rfl h8) ibNil)))))))))).tab
theorem L_law_38_run : okTrue (@call (T_L_law_38 b h0 h1 h2 h3 h4 h5 h6 h8) Tryz.prog ((inHand C_Read2_0).or ((inHand C_Read3_0).or ((H_access_k_true).or H_CF0a))) 5000 3 [.oi 0, .oi 1, .oi 2, .oi 3] H.empty) = true := (by as_aux_lemma => kernel_rfl)
end
theorem L_law_38 {m c f k : Nat} (b : Bd m c f k) (h0 : ¬ vA c 512 = (0)) (h1 : ¬ vA k 1024 = (0)) (h2 : vN c 1585 = (0)) (h3 : vA c 16 = (0)) (h4 : ¬ vA c 1024 = (0)) (h5 : (f : Int) = (25)) (h6 : vN k 1055 = (0)) (h7 : acc k = true) (h8 : ¬ vA k 26 = (0)) (h9 : @InOk Tryz.prog C_Read3_0 (TB m c f k)) (h10 : @InOk Tryz.prog C_Read2_0 (TB m c f k)) (w : World) : Gives m c f k w := by
  letI : Tab := (T_L_law_38 b h0 h1 h2 h3 h4 h5 h6 h8)
  obtain ⟨q_, hq_⟩ := CallOk.of_okTrue (P := Tryz.prog) mixed (HandOk.or (inHand_ok (InOk.tab (VRows.same _ _) h10) (by kernel_rfl)) (HandOk.or (inHand_ok (InOk.tab (VRows.same _ _) h9) (by kernel_rfl)) (HandOk.or (H_access_k_true_ok b h7 (VRows.same _ _)) H_CF0a_ok))) (L_law_38_run b h0 h1 h2 h3 h4 h5 h6 h8)
  exact gives hq_ w rfl rfl rfl rfl rfl rfl
section
variable {m c f k : Nat} (b : Bd m c f k) (h0 : ¬ vA c 512 = (0)) (h1 : ¬ vA k 1024 = (0)) (h2 : vN c 1585 = (0)) (h3 : vA c 16 = (0)) (h4 : ¬ vA c 1024 = (0)) (h5 : (f : Int) = (25)) (h6 : vN k 1055 = (0))
abbrev T_L_law_39 : Tab := (RC b (e9f 4 (0) ++ (e9f 5 (0) ++ (e9t 6 (0) ++ (e9t 7 (0) ++ (e9f 25 (0) ++ (e9t 2 (25) ++ (e9t 10 (0) ++ ([])))))))) (by letI := Tab.empty; exact (allApp (e9f_ok rfl h0) (allApp (e9f_ok rfl h1) (allApp (e9t_ok rfl h2) (allApp (e9t_ok rfl h3) (allApp (e9f_ok rfl h4) (allApp (e9t_ok rfl h5) (allApp (e9t_ok rfl h6) ibNil))))))))).tab
theorem L_law_39_run : okTrue (@call (T_L_law_39 b h0 h1 h2 h3 h4 h5 h6) Tryz.prog ((inHand C_Read2_1).or ((inHand C_Read3_1).or ((H_access_k_false).or H_CF0a))) 5000 3 [.oi 0, .oi 1, .oi 2, .oi 3] H.empty) = true := (by as_aux_lemma => kernel_rfl)
end
theorem L_law_39 {m c f k : Nat} (b : Bd m c f k) (h0 : ¬ vA c 512 = (0)) (h1 : ¬ vA k 1024 = (0)) (h2 : vN c 1585 = (0)) (h3 : vA c 16 = (0)) (h4 : ¬ vA c 1024 = (0)) (h5 : (f : Int) = (25)) (h6 : vN k 1055 = (0)) (h7 : acc k = false) (h8 : @InOk Tryz.prog C_Read3_1 (TB m c f k)) (h9 : @InOk Tryz.prog C_Read2_1 (TB m c f k)) (w : World) : Gives m c f k w := by
  letI : Tab := (T_L_law_39 b h0 h1 h2 h3 h4 h5 h6)
  obtain ⟨q_, hq_⟩ := CallOk.of_okTrue (P := Tryz.prog) mixed (HandOk.or (inHand_ok (InOk.tab (VRows.same _ _) h9) (by kernel_rfl)) (HandOk.or (inHand_ok (InOk.tab (VRows.same _ _) h8) (by kernel_rfl)) (HandOk.or (H_access_k_false_ok b h7 (VRows.same _ _)) H_CF0a_ok))) (L_law_39_run b h0 h1 h2 h3 h4 h5 h6)
  exact gives hq_ w rfl rfl rfl rfl rfl rfl
section
variable {m c f k : Nat} (b : Bd m c f k) (h0 : ¬ vA c 512 = (0)) (h1 : vA k 1024 = (0)) (h2 : vN c 1585 = (0)) (h3 : vA c 16 = (0)) (h4 : ¬ vA c 1024 = (0)) (h5 : (f : Int) = (25)) (h6 : vN k 1055 = (0)) (h8 : ¬ vA k 20 = (0))
abbrev T_L_law_40 : Tab := (RC b (e9f 4 (0) ++ (e9t 5 (0) ++ (e9t 6 (0) ++ (e9t 7 (0) ++ (e9f 25 (0) ++ (e9t 2 (25) ++ (e9t 10 (0) ++ (e9f 74 (0) ++ ([]))))))))) (by letI := Tab.empty; exact (allApp (e9f_ok rfl h0) (allApp (e9t_ok rfl h1) (allApp (e9t_ok rfl h2) (allApp (e9t_ok rfl h3) (allApp (e9f_ok rfl h4) (allApp (e9t_ok rfl h5) (allApp (e9t_ok rfl h6) (allApp (e9f_ok rfl h8) ibNil)))))))))).tab
theorem L_law_40_run : okTrue (@call (T_L_law_40 b h0 h1 h2 h3 h4 h5 h6 h8) Tryz.prog ((inHand C_Read4_0).or ((inHand C_Read1_1).or ((H_access_k_true).or H_CF0a))) 5000 3 [.oi 0, .oi 1, .oi 2, .oi 3] H.empty) = true := (by as_aux_lemma => kernel_rfl)
end
theorem L_law_40 {m c f k : Nat} (b : Bd m c f k) (h0 : ¬ vA c 512 = (0)) (h1 : vA k 1024 = (0)) (h2 : vN c 1585 = (0)) (h3 : vA c 16 = (0)) (h4 : ¬ vA c 1024 = (0)) (h5 : (f : Int) = (25)) (h6 : vN k 1055 = (0)) (h7 : acc k = true) (h8 : ¬ vA k 20 = (0)) (h9 : @InOk Tryz.prog C_Read1_1 (TB m c f k)) (h10 : @InOk Tryz.prog C_Read4_0 (TB m c f k)) (w : World) : Gives m c f k w := by
  letI : Tab := (T_L_law_40 b h0 h1 h2 h3 h4 h5 h6 h8)
  obtain ⟨q_, hq_⟩ := CallOk.of_okTrue (P := Tryz.prog) mixed (HandOk.or (inHand_ok (InOk.tab (VRows.same _ _) h10) (by kernel_rfl)) (HandOk.or (inHand_ok (InOk.tab (VRows.same _ _) h9) (by kernel_rfl)) (HandOk.or (H_access_k_true_ok b h7 (VRows.same _ _)) H_CF0a_ok))) (L_law_40_run b h0 h1 h2 h3 h4 h5 h6 h8)
  exact gives hq_ w rfl rfl rfl rfl rfl rfl
section
variable {m c f k : Nat} (b : Bd m c f k) (h0 : ¬ vA c 512 = (0)) (h1 : vA k 1024 = (0)) (h2 : vN c 1585 = (0)) (h3 : vA c 16 = (0)) (h4 : ¬ vA c 1024 = (0)) (h5 : (f : Int) = (25)) (h6 : vN k 1055 = (0))
abbrev T_L_law_41 : Tab := (RC b (e9f 4 (0) ++ (e9t 5 (0) ++ (e9t 6 (0) ++ (e9t 7 (0) ++ (e9f 25 (0) ++ (e9t 2 (25) ++ (e9t 10 (0) ++ ([])))))))) (by letI := Tab.empty; exact (allApp (e9f_ok rfl h0) (allApp (e9t_ok rfl h1) (allApp (e9t_ok rfl h2) (allApp (e9t_ok rfl h3) (allApp (e9f_ok rfl h4) (allApp (e9t_ok rfl h5) (allApp (e9t_ok rfl h6) ibNil))))))))).tab
theorem L_law_41_run : okTrue (@call (T_L_law_41 b h0 h1 h2 h3 h4 h5 h6) Tryz.prog ((inHand C_Read4_1).or ((inHand C_Read1_2).or ((H_access_k_false).or H_CF0a))) 5000 3 [.oi 0, .oi 1, .oi 2, .oi 3] H.empty) = true := (by as_aux_lemma => kernel_rfl)
end
theorem L_law_41 {m c f k : Nat} (b : Bd m c f k) (h0 : ¬ vA c 512 = (0)) (h1 : vA k 1024 = (0)) (h2 : vN c 1585 = (0)) (h3 : vA c 16 = (0)) (h4 : ¬ vA c 1024 = (0)) (h5 : (f : Int) = (25)) (h6 : vN k 1055 = (0)) (h7 : acc k = false) (h8 : @InOk Tryz.prog C_Read1_2 (TB m c f k)) (h9 : @InOk Tryz.prog C_Read4_1 (TB m c f k)) (w : World) : Gives m c f k w := by
  letI : Tab := (T_L_law_41 b h0 h1 h2 h3 h4 h5 h6)
  obtain ⟨q_, hq_⟩ := CallOk.of_okTrue (P := Tryz.prog) mixed (HandOk.or (inHand_ok (InOk.tab (VRows.same _ _) h9) (by kernel_rfl)) (HandOk.or (inHand_ok (InOk.tab (VRows.same _ _) h8) (by kernel_rfl)) (HandOk.or (H_access_k_false_ok b h7 (VRows.same _ _)) H_CF0a_ok))) (L_law_41_run b h0 h1 h2 h3 h4 h5 h6)
  exact gives hq_ w rfl rfl rfl rfl rfl rfl
section
variable {m c f k : Nat} (b : Bd m c f k) (h0 : ¬ vA c 512 = (0)) (h1 : vA k 1024 = (0)) (h2 : vN c 1585 = (0)) (h3 : vA c 16 = (0)) (h4 : ¬ vA c 1024 = (0)) (h5 : (f : Int) = (25)) (h6 : vN k 1055 = (0)) (h8 : vA k 20 = (0)) (h9 : ¬ vA k 3 = (0)) (h10 : (m : Int) = (52))
abbrev T_L_law_42 : Tab := (RC b (e9f 4 (0) ++ (e9t 5 (0) ++ (e9t 6 (0) ++ (e9t 7 (0) ++ (e9f 25 (0) ++ (e9t 2 (25) ++ (e9t 10 (0) ++ (e9t 74 (0) ++ (e9f 75 (0) ++ (e9t 0 (52) ++ ([]))))))))))) (by letI := Tab.empty; exact (allApp (e9f_ok rfl h0) (allApp (e9t_ok rfl h1) (allApp (e9t_ok rfl h2) (allApp (e9t_ok rfl h3) (allApp (e9f_ok rfl h4) (allApp (e9t_ok rfl h5) (allApp (e9t_ok rfl h6) (allApp (e9t_ok rfl h8) (allApp (e9f_ok rfl h9) (allApp (e9t_ok rfl h10) ibNil)))))))))))).tab
theorem L_law_42_run : okTrue (@call (T_L_law_42 b h0 h1 h2 h3 h4 h5 h6 h8 h9 h10) Tryz.prog ((inHand C_Read5_1).or ((inHand C_Read1_5).or ((H_access_k_true).or H_CF0a))) 5000 3 [.oi 0, .oi 1, .oi 2, .oi 3] H.empty) = true := (by as_aux_lemma => kernel_rfl)
end
theorem L_law_42 {m c f k : Nat} (b : Bd m c f k) (h0 : ¬ vA c 512 = (0)) (h1 : vA k 1024 = (0)) (h2 : vN c 1585 = (0)) (h3 : vA c 16 = (0)) (h4 : ¬ vA c 1024 = (0)) (h5 : (f : Int) = (25)) (h6 : vN k 1055 = (0)) (h7 : acc k = true) (h8 : vA k 20 = (0)) (h9 : ¬ vA k 3 = (0)) (h10 : (m : Int) = (52)) (h11 : @InOk Tryz.prog C_Read1_5 (TB m c f k)) (h12 : @InOk Tryz.prog C_Read5_1 (TB m c f k)) (w : World) : Gives m c f k w := by
  letI : Tab := (T_L_law_42 b h0 h1 h2 h3 h4 h5 h6 h8 h9 h10)
  obtain ⟨q_, hq_⟩ := CallOk.of_okTrue (P := Tryz.prog) mixed (HandOk.or (inHand_ok (InOk.tab (VRows.same _ _) h12) (by kernel_rfl)) (HandOk.or (inHand_ok (InOk.tab (VRows.same _ _) h11) (by kernel_rfl)) (HandOk.or (H_access_k_true_ok b h7 (VRows.same _ _)) H_CF0a_ok))) (L_law_42_run b h0 h1 h2 h3 h4 h5 h6 h8 h9 h10)
  exact gives hq_ w rfl rfl rfl rfl rfl rfl
section
variable {m c f k : Nat} (b : Bd m c f k) (h0 : ¬ vA c 512 = (0)) (h1 : ¬ vA k 1024 = (0)) (h2 : vN c 1585 = (0)) (h3 : vA c 16 = (0)) (h4 : ¬ vA c 1024 = (0)) (h5 : ¬ (f : Int) = (25))
abbrev T_L_law_43 : Tab := (RC b (e9f 4 (0) ++ (e9f 5 (0) ++ (e9t 6 (0) ++ (e9t 7 (0) ++ (e9f 25 (0) ++ (e9f 2 (25) ++ ([]))))))) (by letI := Tab.empty; exact (allApp (e9f_ok rfl h0) (allApp (e9f_ok rfl h1) (allApp (e9t_ok rfl h2) (allApp (e9t_ok rfl h3) (allApp (e9f_ok rfl h4) (allApp (e9f_ok rfl h5) ibNil)))))))).tab
theorem L_law_43_run : okTrue (@call (T_L_law_43 b h0 h1 h2 h3 h4 h5) Tryz.prog ((inHand C_Read8_0).or ((inHand C_Read3_4).or H_CF0a)) 5000 3 [.oi 0, .oi 1, .oi 2, .oi 3] H.empty) = true := (by as_aux_lemma => kernel_rfl)
end
theorem L_law_43 {m c f k : Nat} (b : Bd m c f k) (h0 : ¬ vA c 512 = (0)) (h1 : ¬ vA k 1024 = (0)) (h2 : vN c 1585 = (0)) (h3 : vA c 16 = (0)) (h4 : ¬ vA c 1024 = (0)) (h5 : ¬ (f : Int) = (25)) (h6 : @InOk Tryz.prog C_Read3_4 (TB m c f k)) (h7 : @InOk Tryz.prog C_Read8_0 (TB m c f k)) (w : World) : Gives m c f k w := by
  letI : Tab := (T_L_law_43 b h0 h1 h2 h3 h4 h5)
  obtain ⟨q_, hq_⟩ := CallOk.of_okTrue (P := Tryz.prog) mixed (HandOk.or (inHand_ok (InOk.tab (VRows.same _ _) h7) (by kernel_rfl)) (HandOk.or (inHand_ok (InOk.tab (VRows.same _ _) h6) (by kernel_rfl)) H_CF0a_ok)) (L_law_43_run b h0 h1 h2 h3 h4 h5)
  exact gives hq_ w rfl rfl rfl rfl rfl rfl
section
variable {m c f k : Nat} (b : Bd m c f k) (h0 : vA c 512 = (0)) (h1 : ¬ vA k 1024 = (0)) (h2 : ¬ vN c 1585 = (0))
abbrev T_L_law_44 : Tab := (RC b (e9t 4 (0) ++ (e9f 5 (0) ++ (e9f 6 (0) ++ ([])))) (by letI := Tab.empty; exact (allApp (e9t_ok rfl h0) (allApp (e9f_ok rfl h1) (allApp (e9f_ok rfl h2) ibNil))))).tab
theorem L_law_44_run : okTrue (@call (T_L_law_44 b h0 h1 h2) Tryz.prog ((inHand C_Read7_0).or ((inHand C_Read3_3).or H_CF0a)) 5000 3 [.oi 0, .oi 1, .oi 2, .oi 3] H.empty) = true := (by as_aux_lemma => kernel_rfl)
end
theorem L_law_44 {m c f k : Nat} (b : Bd m c f k) (h0 : vA c 512 = (0)) (h1 : ¬ vA k 1024 = (0)) (h2 : ¬ vN c 1585 = (0)) (h3 : @InOk Tryz.prog C_Read3_3 (TB m c f k)) (h4 : @InOk Tryz.prog C_Read7_0 (TB m c f k)) (w : World) : Gives m c f k w := by
  letI : Tab := (T_L_law_44 b h0 h1 h2)
  obtain ⟨q_, hq_⟩ := CallOk.of_okTrue (P := Tryz.prog) mixed (HandOk.or (inHand_ok (InOk.tab (VRows.same _ _) h4) (by kernel_rfl)) (HandOk.or (inHand_ok (InOk.tab (VRows.same _ _) h3) (by kernel_rfl)) H_CF0a_ok)) (L_law_44_run b h0 h1 h2)
  exact gives hq_ w rfl rfl rfl rfl rfl rfl
section
variable {m c f k : Nat} (b : Bd m c f k) (h0 : vA c 512 = (0)) (h1 : ¬ vA k 1024 = (0)) (h2 : vN c 1585 = (0)) (h3 : vA c 16 = (0)) (h4 : ¬ vN f 31 = (0))
abbrev T_L_law_45 : Tab := (RC b (e9t 4 (0) ++ (e9f 5 (0) ++ (e9t 6 (0) ++ (e9t 7 (0) ++ (e9f 8 (0) ++ ([])))))) (by letI := Tab.empty; exact (allApp (e9t_ok rfl h0) (allApp (e9f_ok rfl h1) (allApp (e9t_ok rfl h2) (allApp (e9t_ok rfl h3) (allApp (e9f_ok rfl h4) ibNil))))))).tab
theorem L_law_45_run : okTrue (@call (T_L_law_45 b h0 h1 h2 h3 h4) Tryz.prog ((inHand C_Read8_0).or ((inHand C_Read3_4).or H_CF0a)) 5000 3 [.oi 0, .oi 1, .oi 2, .oi 3] H.empty) = true := (by as_aux_lemma => kernel_rfl)
end
theorem L_law_45 {m c f k : Nat} (b : Bd m c f k) (h0 : vA c 512 = (0)) (h1 : ¬ vA k 1024 = (0)) (h2 : vN c 1585 = (0)) (h3 : vA c 16 = (0)) (h4 : ¬ vN f 31 = (0)) (h5 : @InOk Tryz.prog C_Read3_4 (TB m c f k)) (h6 : @InOk Tryz.prog C_Read8_0 (TB m c f k)) (w : World) : Gives m c f k w := by
  letI : Tab := (T_L_law_45 b h0 h1 h2 h3 h4)
  obtain ⟨q_, hq_⟩ := CallOk.of_okTrue (P := Tryz.prog) mixed (HandOk.or (inHand_ok (InOk.tab (VRows.same _ _) h6) (by kernel_rfl)) (HandOk.or (inHand_ok (InOk.tab (VRows.same _ _) h5) (by kernel_rfl)) H_CF0a_ok)) (L_law_45_run b h0 h1 h2 h3 h4)
  exact gives hq_ w rfl rfl rfl rfl rfl rfl
section
variable {m c f k : Nat} (b : Bd m c f k) (h0 : vA c 512 = (0)) (h1 : vA k 1024 = (0)) (h2 : vN c 1585 = (0)) (h3 : vA c 16 = (0)) (h4 : vN f 31 = (0)) (h6 : vN k 1055 = (0))
abbrev T_L_law_46 : Tab := (RC b (e9t 4 (0) ++ (e9t 5 (0) ++ (e9t 6 (0) ++ (e9t 7 (0) ++ (e9t 8 (0) ++ (e9t 10 (0) ++ ([]))))))) (by letI := Tab.empty; exact (allApp (e9t_ok rfl h0) (allApp (e9t_ok rfl h1) (allApp (e9t_ok rfl h2) (allApp (e9t_ok rfl h3) (allApp (e9t_ok rfl h4) (allApp (e9t_ok rfl h6) ibNil)))))))).tab
theorem L_law_46_run : okTrue (@call (T_L_law_46 b h0 h1 h2 h3 h4 h6) Tryz.prog ((inHand C_Read4_1).or ((inHand C_Read1_2).or ((H_access_k_false).or ((H_access_f_true).or H_CF0a)))) 5000 3 [.oi 0, .oi 1, .oi 2, .oi 3] H.empty) = true := (by as_aux_lemma => kernel_rfl)
end
theorem L_law_46 {m c f k : Nat} (b : Bd m c f k) (h0 : vA c 512 = (0)) (h1 : vA k 1024 = (0)) (h2 : vN c 1585 = (0)) (h3 : vA c 16 = (0)) (h4 : vN f 31 = (0)) (h5 : acc f = true) (h6 : vN k 1055 = (0)) (h7 : acc k = false) (h8 : @InOk Tryz.prog C_Read1_2 (TB m c f k)) (h9 : @InOk Tryz.prog C_Read4_1 (TB m c f k)) (w : World) : Gives m c f k w := by
  letI : Tab := (T_L_law_46 b h0 h1 h2 h3 h4 h6)
  obtain ⟨q_, hq_⟩ := CallOk.of_okTrue (P := Tryz.prog) mixed (HandOk.or (inHand_ok (InOk.tab (VRows.same _ _) h9) (by kernel_rfl)) (HandOk.or (inHand_ok (InOk.tab (VRows.same _ _) h8) (by kernel_rfl)) (HandOk.or (H_access_k_false_ok b h7 (VRows.same _ _)) (HandOk.or (H_access_f_true_ok b h5 (VRows.same _ _)) H_CF0a_ok)))) (L_law_46_run b h0 h1 h2 h3 h4 h6)
  exact gives hq_ w rfl rfl rfl rfl rfl rfl
section
variable {m c f k : Nat} (b : Bd m c f k) (h0 : ¬ vA c 512 = (0)) (h1 : ¬ vA k 1024 = (0)) (h2 : vN c 1585 = (0)) (h3 : ¬ vA c 16 = (0)) (h4 : vA c 1024 = (0))
abbrev T_L_law_47 : Tab := (RC b (e9f 4 (0) ++ (e9f 5 (0) ++ (e9t 6 (0) ++ (e9f 7 (0) ++ (e9t 25 (0) ++ ([])))))) (by letI := Tab.empty; exact (allApp (e9f_ok rfl h0) (allApp (e9f_ok rfl h1) (allApp (e9t_ok rfl h2) (allApp (e9f_ok rfl h3) (allApp (e9t_ok rfl h4) ibNil))))))).tab
theorem L_law_47_run : okTrue (@call (T_L_law_47 b h0 h1 h2 h3 h4) Tryz.prog ((inHand C_Read7_0).or ((inHand C_Read3_3).or H_CF0a)) 5000 3 [.oi 0, .oi 1, .oi 2, .oi 3] H.empty) = true := (by as_aux_lemma => kernel_rfl)
end
theorem L_law_47 {m c f k : Nat} (b : Bd m c f k) (h0 : ¬ vA c 512 = (0)) (h1 : ¬ vA k 1024 = (0)) (h2 : vN c 1585 = (0)) (h3 : ¬ vA c 16 = (0)) (h4 : vA c 1024 = (0)) (h5 : @InOk Tryz.prog C_Read3_3 (TB m c f k)) (h6 : @InOk Tryz.prog C_Read7_0 (TB m c f k)) (w : World) : Gives m c f k w := by
  letI : Tab := (T_L_law_47 b h0 h1 h2 h3 h4)
  obtain ⟨q_, hq_⟩ := CallOk.of_okTrue (P := Tryz.prog) mixed (HandOk.or (inHand_ok (InOk.tab (VRows.same _ _) h6) (by kernel_rfl)) (HandOk.or (inHand_ok (InOk.tab (VRows.same _ _) h5) (by kernel_rfl)) H_CF0a_ok)) (L_law_47_run b h0 h1 h2 h3 h4)
  exact gives hq_ w rfl rfl rfl rfl rfl rfl
section
variable {m c f k : Nat} (b : Bd m c f k) (h0 : vA c 512 = (0)) (h1 : ¬ vA k 1024 = (0)) (h2 : vN c 1585 = (0)) (h3 : ¬ vA c 16 = (0)) (h4 : vA c 1024 = (0)) (h5 : vN f 31 = (0)) (h7 : vN k 1055 = (0))
abbrev T_L_law_48 : Tab := (RC b (e9t 4 (0) ++ (e9f 5 (0) ++ (e9t 6 (0) ++ (e9f 7 (0) ++ (e9t 25 (0) ++ (e9t 8 (0) ++ (e9t 10 (0) ++ ([])))))))) (by letI := Tab.empty; exact (allApp (e9t_ok rfl h0) (allApp (e9f_ok rfl h1) (allApp (e9t_ok rfl h2) (allApp (e9f_ok rfl h3) (allApp (e9t_ok rfl h4) (allApp (e9t_ok rfl h5) (allApp (e9t_ok rfl h7) ibNil))))))))).tab
theorem L_law_48_run : okTrue (@call (T_L_law_48 b h0 h1 h2 h3 h4 h5 h7) Tryz.prog ((inHand C_Read2_1).or ((inHand C_Read3_1).or ((H_access_k_false).or ((H_access_f_true).or H_CF0a)))) 5000 3 [.oi 0, .oi 1, .oi 2, .oi 3] H.empty) = true := (by as_aux_lemma => kernel_rfl)
end
theorem L_law_48 {m c f k : Nat} (b : Bd m c f k) (h0 : vA c 512 = (0)) (h1 : ¬ vA k 1024 = (0)) (h2 : vN c 1585 = (0)) (h3 : ¬ vA c 16 = (0)) (h4 : vA c 1024 = (0)) (h5 : vN f 31 = (0)) (h6 : acc f = true) (h7 : vN k 1055 = (0)) (h8 : acc k = false) (h9 : @InOk Tryz.prog C_Read3_1 (TB m c f k)) (h10 : @InOk Tryz.prog C_Read2_1 (TB m c f k)) (w : World) : Gives m c f k w := by
  letI : Tab := (T_L_law_48 b h0 h1 h2 h3 h4 h5 h7)
  obtain ⟨q_, hq_⟩ := CallOk.of_okTrue (P := Tryz.prog) mixed (HandOk.or (inHand_ok (InOk.tab (VRows.same _ _) h10) (by kernel_rfl)) (HandOk.or (inHand_ok (InOk.tab (VRows.same _ _) h9) (by kernel_rfl)) (HandOk.or (H_access_k_false_ok b h8 (VRows.same _ _)) (HandOk.or (H_access_f_true_ok b h6 (VRows.same _ _)) H_CF0a_ok)))) (L_law_48_run b h0 h1 h2 h3 h4 h5 h7)
  exact gives hq_ w rfl rfl rfl rfl rfl rfl
section
variable {m c f k : Nat} (b : Bd m c f k) (h0 : vA c 512 = (0)) (h1 : ¬ vA k 1024 = (0)) (h2 : vN c 1585 = (0)) (h3 : vA c 16 = (0)) (h4 : vN f 31 = (0)) (h6 : vN k 1055 = (0))
abbrev T_L_law_49 : Tab := (RC b (e9t 4 (0) ++ (e9f 5 (0) ++ (e9t 6 (0) ++ (e9t 7 (0) ++ (e9t 8 (0) ++ (e9t 10 (0) ++ ([]))))))) (by letI := Tab.empty; exact (allApp (e9t_ok rfl h0) (allApp (e9f_ok rfl h1) (allApp (e9t_ok rfl h2) (allApp (e9t_ok rfl h3) (allApp (e9t_ok rfl h4) (allApp (e9t_ok rfl h6) ibNil)))))))).tab
theorem L_law_49_run : okTrue (@call (T_L_law_49 b h0 h1 h2 h3 h4 h6) Tryz.prog ((inHand C_Read2_1).or ((inHand C_Read3_1).or ((H_access_k_false).or ((H_access_f_true).or H_CF0a)))) 5000 3 [.oi 0, .oi 1, .oi 2, .oi 3] H.empty) = true := (by as_aux_lemma => kernel_rfl)
end
theorem L_law_49 {m c f k : Nat} (b : Bd m c f k) (h0 : vA c 512 = (0)) (h1 : ¬ vA k 1024 = (0)) (h2 : vN c 1585 = (0)) (h3 : vA c 16 = (0)) (h4 : vN f 31 = (0)) (h5 : acc f = true) (h6 : vN k 1055 = (0)) (h7 : acc k = false) (h8 : @InOk Tryz.prog C_Read3_1 (TB m c f k)) (h9 : @InOk Tryz.prog C_Read2_1 (TB m c f k)) (w : World) : Gives m c f k w := by
  letI : Tab := (T_L_law_49 b h0 h1 h2 h3 h4 h6)
  obtain ⟨q_, hq_⟩ := CallOk.of_okTrue (P := Tryz.prog) mixed (HandOk.or (inHand_ok (InOk.tab (VRows.same _ _) h9) (by kernel_rfl)) (HandOk.or (inHand_ok (InOk.tab (VRows.same _ _) h8) (by kernel_rfl)) (HandOk.or (H_access_k_false_ok b h7 (VRows.same _ _)) (HandOk.or (H_access_f_true_ok b h5 (VRows.same _ _)) H_CF0a_ok)))) (L_law_49_run b h0 h1 h2 h3 h4 h6)
  exact gives hq_ w rfl rfl rfl rfl rfl rfl
section
variable {m c f k : Nat} (b : Bd m c f k) (h0 : ¬ vA c 512 = (0)) (h1 : vA k 1024 = (0)) (h2 : vN c 1585 = (0)) (h3 : vA c 16 = (0)) (h4 : ¬ vA c 1024 = (0)) (h5 : (f : Int) = (25)) (h6 : vN k 1055 = (0)) (h8 : vA k 20 = (0)) (h9 : ¬ vA k 3 = (0)) (h10 : ¬ (m : Int) = (52)) (h11 : ¬ (k : Int) = (1025))
abbrev T_L_law_50 : Tab := (RC b (e9f 4 (0) ++ (e9t 5 (0) ++ (e9t 6 (0) ++ (e9t 7 (0) ++ (e9f 25 (0) ++ (e9t 2 (25) ++ (e9t 10 (0) ++ (e9t 74 (0) ++ (e9f 75 (0) ++ (e9f 0 (52) ++ (e9f 3 (1025) ++ ([])))))))))))) (by letI := Tab.empty; exact (allApp (e9f_ok rfl h0) (allApp (e9t_ok rfl h1) (allApp (e9t_ok rfl h2) (allApp (e9t_ok rfl h3) (allApp (e9f_ok rfl h4) (allApp (e9t_ok rfl h5) (allApp (e9t_ok rfl h6) (allApp (e9t_ok rfl h8) (allApp (e9f_ok rfl h9) (allApp (e9f_ok rfl h10) (allApp (e9f_ok rfl h11) ibNil))))))))))))).tab
theorem L_law_50_run : okTrue (@call (T_L_law_50 b h0 h1 h2 h3 h4 h5 h6 h8 h9 h10 h11) Tryz.prog ((inHand C_Read4_1).or ((inHand C_Read1_2).or ((H_access_k_true).or H_CF0a))) 5000 3 [.oi 0, .oi 1, .oi 2, .oi 3] H.empty) = true := (by as_aux_lemma => kernel_rfl)
end
theorem L_law_50 {m c f k : Nat} (b : Bd m c f k) (h0 : ¬ vA c 512 = (0)) (h1 : vA k 1024 = (0)) (h2 : vN c 1585 = (0)) (h3 : vA c 16 = (0)) (h4 : ¬ vA c 1024 = (0)) (h5 : (f : Int) = (25)) (h6 : vN k 1055 = (0)) (h7 : acc k = true) (h8 : vA k 20 = (0)) (h9 : ¬ vA k 3 = (0)) (h10 : ¬ (m : Int) = (52)) (h11 : ¬ (k : Int) = (1025)) (h12 : @InOk Tryz.prog C_Read1_2 (TB m c f k)) (h13 : @InOk Tryz.prog C_Read4_1 (TB m c f k)) (w : World) : Gives m c f k w := by
  letI : Tab := (T_L_law_50 b h0 h1 h2 h3 h4 h5 h6 h8 h9 h10 h11)
  obtain ⟨q_, hq_⟩ := CallOk.of_okTrue (P := Tryz.prog) mixed (HandOk.or (inHand_ok (InOk.tab (VRows.same _ _) h13) (by kernel_rfl)) (HandOk.or (inHand_ok (InOk.tab (VRows.same _ _) h12) (by kernel_rfl)) (HandOk.or (H_access_k_true_ok b h7 (VRows.same _ _)) H_CF0a_ok))) (L_law_50_run b h0 h1 h2 h3 h4 h5 h6 h8 h9 h10 h11)
  exact gives hq_ w rfl rfl rfl rfl rfl rfl
section
variable {m c f k : Nat} (b : Bd m c f k) (h0 : ¬ vA c 512 = (0)) (h1 : vA k 1024 = (0)) (h2 : vN c 1585 = (0)) (h3 : ¬ vA c 16 = (0)) (h4 : ¬ vA c 1024 = (0))
abbrev T_L_law_51 : Tab := (RC b (e9f 4 (0) ++ (e9t 5 (0) ++ (e9t 6 (0) ++ (e9f 7 (0) ++ (e9f 25 (0) ++ ([])))))) (by letI := Tab.empty; exact (allApp (e9f_ok rfl h0) (allApp (e9t_ok rfl h1) (allApp (e9t_ok rfl h2) (allApp (e9f_ok rfl h3) (allApp (e9f_ok rfl h4) ibNil))))))).tab
theorem L_law_51_run : okTrue (@call (T_L_law_51 b h0 h1 h2 h3 h4) Tryz.prog ((inHand C_Read0_0).or ((inHand C_Read1_0).or H_CF0a)) 5000 3 [.oi 0, .oi 1, .oi 2, .oi 3] H.empty) = true := (by as_aux_lemma => kernel_rfl)
end
theorem L_law_51 {m c f k : Nat} (b : Bd m c f k) (h0 : ¬ vA c 512 = (0)) (h1 : vA k 1024 = (0)) (h2 : vN c 1585 = (0)) (h3 : ¬ vA c 16 = (0)) (h4 : ¬ vA c 1024 = (0)) (h5 : @InOk Tryz.prog C_Read1_0 (TB m c f k)) (h6 : @InOk Tryz.prog C_Read0_0 (TB m c f k)) (w : World) : Gives m c f k w := by
  letI : Tab := (T_L_law_51 b h0 h1 h2 h3 h4)
  obtain ⟨q_, hq_⟩ := CallOk.of_okTrue (P := Tryz.prog) mixed (HandOk.or (inHand_ok (InOk.tab (VRows.same _ _) h6) (by kernel_rfl)) (HandOk.or (inHand_ok (InOk.tab (VRows.same _ _) h5) (by kernel_rfl)) H_CF0a_ok)) (L_law_51_run b h0 h1 h2 h3 h4)
  exact gives hq_ w rfl rfl rfl rfl rfl rfl
section
variable {m c f k : Nat} (b : Bd m c f k) (h0 : ¬ vA c 512 = (0)) (h1 : ¬ vA k 1024 = (0)) (h2 : vN c 1585 = (0)) (h3 : vA c 16 = (0)) (h4 : ¬ vA c 1024 = (0)) (h5 : (f : Int) = (25)) (h6 : vN k 1055 = (0)) (h8 : vA k 26 = (0)) (h9 : ¬ vA k 20 = (0))
abbrev T_L_law_52 : Tab := (RC b (e9f 4 (0) ++ (e9f 5 (0) ++ (e9t 6 (0) ++ (e9t 7 (0) ++ (e9f 25 (0) ++ (e9t 2 (25) ++ (e9t 10 (0) ++ (e9t 73 (0) ++ (e9f 74 (0) ++ ([])))))))))) (by letI := Tab.empty; exact (allApp (e9f_ok rfl h0) (allApp (e9f_ok rfl h1) (allApp (e9t_ok rfl h2) (allApp (e9t_ok rfl h3) (allApp (e9f_ok rfl h4) (allApp (e9t_ok rfl h5) (allApp (e9t_ok rfl h6) (allApp (e9t_ok rfl h8) (allApp (e9f_ok rfl h9) ibNil))))))))))).tab
theorem L_law_52_run : okTrue (@call (T_L_law_52 b h0 h1 h2 h3 h4 h5 h6 h8 h9) Tryz.prog ((inHand C_Read2_1).or ((inHand C_Read3_1).or ((H_access_k_true).or H_CF0a))) 5000 3 [.oi 0, .oi 1, .oi 2, .oi 3] H.empty) = true := (by as_aux_lemma => kernel_rfl)
end
theorem L_law_52 {m c f k : Nat} (b : Bd m c f k) (h0 : ¬ vA c 512 = (0)) (h1 : ¬ vA k 1024 = (0)) (h2 : vN c 1585 = (0)) (h3 : vA c 16 = (0)) (h4 : ¬ vA c 1024 = (0)) (h5 : (f : Int) = (25)) (h6 : vN k 1055 = (0)) (h7 : acc k = true) (h8 : vA k 26 = (0)) (h9 : ¬ vA k 20 = (0)) (h10 : @InOk Tryz.prog C_Read3_1 (TB m c f k)) (h11 : @InOk Tryz.prog C_Read2_1 (TB m c f k)) (w : World) : Gives m c f k w := by
  letI : Tab := (T_L_law_52 b h0 h1 h2 h3 h4 h5 h6 h8 h9)
  obtain ⟨q_, hq_⟩ := CallOk.of_okTrue (P := Tryz.prog) mixed (HandOk.or (inHand_ok (InOk.tab (VRows.same _ _) h11) (by kernel_rfl)) (HandOk.or (inHand_ok (InOk.tab (VRows.same _ _) h10) (by kernel_rfl)) (HandOk.or (H_access_k_true_ok b h7 (VRows.same _ _)) H_CF0a_ok))) (L_law_52_run b h0 h1 h2 h3 h4 h5 h6 h8 h9)
  exact gives hq_ w rfl rfl rfl rfl rfl rfl
section
variable {m c f k : Nat} (b : Bd m c f k) (h0 : ¬ vA c 512 = (0)) (h1 : vA k 1024 = (0)) (h2 : vN c 1585 = (0)) (h3 : vA c 16 = (0)) (h4 : vA c 1024 = (0))
abbrev T_L_law_53 : Tab := (RC b (e9f 4 (0) ++ (e9t 5 (0) ++ (e9t 6 (0) ++ (e9t 7 (0) ++ (e9t 25 (0) ++ ([])))))) (by letI := Tab.empty; exact (allApp (e9f_ok rfl h0) (allApp (e9t_ok rfl h1) (allApp (e9t_ok rfl h2) (allApp (e9t_ok rfl h3) (allApp (e9t_ok rfl h4) ibNil))))))).tab
theorem L_law_53_run : okTrue (@call (T_L_law_53 b h0 h1 h2 h3 h4) Tryz.prog ((inHand C_Read0_0).or ((inHand C_Read1_0).or H_CF0a)) 5000 3 [.oi 0, .oi 1, .oi 2, .oi 3] H.empty) = true := (by as_aux_lemma => kernel_rfl)
end
theorem L_law_53 {m c f k : Nat} (b : Bd m c f k) (h0 : ¬ vA c 512 = (0)) (h1 : vA k 1024 = (0)) (h2 : vN c 1585 = (0)) (h3 : vA c 16 = (0)) (h4 : vA c 1024 = (0)) (h5 : @InOk Tryz.prog C_Read1_0 (TB m c f k)) (h6 : @InOk Tryz.prog C_Read0_0 (TB m c f k)) (w : World) : Gives m c f k w := by
  letI : Tab := (T_L_law_53 b h0 h1 h2 h3 h4)
  obtain ⟨q_, hq_⟩ := CallOk.of_okTrue (P := Tryz.prog) mixed (HandOk.or (inHand_ok (InOk.tab (VRows.same _ _) h6) (by kernel_rfl)) (HandOk.or (inHand_ok (InOk.tab (VRows.same _ _) h5) (by kernel_rfl)) H_CF0a_ok)) (L_law_53_run b h0 h1 h2 h3 h4)
  exact gives hq_ w rfl rfl rfl rfl rfl rfl
section
variable {m c f k : Nat} (b : Bd m c f k) (h0 : vA c 512 = (0)) (h1 : vA k 1024 = (0)) (h2 : vN c 1585 = (0)) (h3 : ¬ vA c 16 = (0)) (h4 : vA c 1024 = (0)) (h5 : ¬ vN f 31 = (0))
abbrev T_L_law_54 : Tab := (RC b (e9t 4 (0) ++ (e9t 5 (0) ++ (e9t 6 (0) ++ (e9f 7 (0) ++ (e9t 25 (0) ++ (e9f 8 (0) ++ ([]))))))) (by letI := Tab.empty; exact (allApp (e9t_ok rfl h0) (allApp (e9t_ok rfl h1) (allApp (e9t_ok rfl h2) (allApp (e9f_ok rfl h3) (allApp (e9t_ok rfl h4) (allApp (e9f_ok rfl h5) ibNil)))))))).tab
theorem L_law_54_run : okTrue (@call (T_L_law_54 b h0 h1 h2 h3 h4 h5) Tryz.prog ((inHand C_Read6_0).or ((inHand C_Read1_4).or H_CF0a)) 5000 3 [.oi 0, .oi 1, .oi 2, .oi 3] H.empty) = true := (by as_aux_lemma => kernel_rfl)
end
theorem L_law_54 {m c f k : Nat} (b : Bd m c f k) (h0 : vA c 512 = (0)) (h1 : vA k 1024 = (0)) (h2 : vN c 1585 = (0)) (h3 : ¬ vA c 16 = (0)) (h4 : vA c 1024 = (0)) (h5 : ¬ vN f 31 = (0)) (h6 : @InOk Tryz.prog C_Read1_4 (TB m c f k)) (h7 : @InOk Tryz.prog C_Read6_0 (TB m c f k)) (w : World) : Gives m c f k w := by
  letI : Tab := (T_L_law_54 b h0 h1 h2 h3 h4 h5)
  obtain ⟨q_, hq_⟩ := CallOk.of_okTrue (P := Tryz.prog) mixed (HandOk.or (inHand_ok (InOk.tab (VRows.same _ _) h7) (by kernel_rfl)) (HandOk.or (inHand_ok (InOk.tab (VRows.same _ _) h6) (by kernel_rfl)) H_CF0a_ok)) (L_law_54_run b h0 h1 h2 h3 h4 h5)
  exact gives hq_ w rfl rfl rfl rfl rfl rfl
section
variable {m c f k : Nat} (b : Bd m c f k) (h0 : vA c 512 = (0)) (h1 : vA k 1024 = (0)) (h2 : vN c 1585 = (0)) (h3 : ¬ vA c 16 = (0)) (h4 : vA c 1024 = (0)) (h5 : vN f 31 = (0))
abbrev T_L_law_55 : Tab := (RC b (e9t 4 (0) ++ (e9t 5 (0) ++ (e9t 6 (0) ++ (e9f 7 (0) ++ (e9t 25 (0) ++ (e9t 8 (0) ++ ([]))))))) (by letI := Tab.empty; exact (allApp (e9t_ok rfl h0) (allApp (e9t_ok rfl h1) (allApp (e9t_ok rfl h2) (allApp (e9f_ok rfl h3) (allApp (e9t_ok rfl h4) (allApp (e9t_ok rfl h5) ibNil)))))))).tab
theorem L_law_55_run : okTrue (@call (T_L_law_55 b h0 h1 h2 h3 h4 h5) Tryz.prog ((inHand C_Read6_0).or ((inHand C_Read1_4).or ((H_access_f_false).or H_CF0a))) 5000 3 [.oi 0, .oi 1, .oi 2, .oi 3] H.empty) = true := (by as_aux_lemma => kernel_rfl)
end
theorem L_law_55 {m c f k : Nat} (b : Bd m c f k) (h0 : vA c 512 = (0)) (h1 : vA k 1024 = (0)) (h2 : vN c 1585 = (0)) (h3 : ¬ vA c 16 = (0)) (h4 : vA c 1024 = (0)) (h5 : vN f 31 = (0)) (h6 : acc f = false) (h7 : @InOk Tryz.prog C_Read1_4 (TB m c f k)) (h8 : @InOk Tryz.prog C_Read6_0 (TB m c f k)) (w : World) : Gives m c f k w := by
  letI : Tab := (T_L_law_55 b h0 h1 h2 h3 h4 h5)
  obtain ⟨q_, hq_⟩ := CallOk.of_okTrue (P := Tryz.prog) mixed (HandOk.or (inHand_ok (InOk.tab (VRows.same _ _) h8) (by kernel_rfl)) (HandOk.or (inHand_ok (InOk.tab (VRows.same _ _) h7) (by kernel_rfl)) (HandOk.or (H_access_f_false_ok b h6 (VRows.same _ _)) H_CF0a_ok))) (L_law_55_run b h0 h1 h2 h3 h4 h5)
  exact gives hq_ w rfl rfl rfl rfl rfl rfl
section
variable {m c f k : Nat} (b : Bd m c f k) (h0 : vA c 512 = (0)) (h1 : vA k 1024 = (0)) (h2 : vN c 1585 = (0)) (h3 : ¬ vA c 16 = (0)) (h4 : vA c 1024 = (0)) (h5 : vN f 31 = (0)) (h7 : vN k 1055 = (0))
abbrev T_L_law_56 : Tab := (RC b (e9t 4 (0) ++ (e9t 5 (0) ++ (e9t 6 (0) ++ (e9f 7 (0) ++ (e9t 25 (0) ++ (e9t 8 (0) ++ (e9t 10 (0) ++ ([])))))))) (by letI := Tab.empty; exact (allApp (e9t_ok rfl h0) (allApp (e9t_ok rfl h1) (allApp (e9t_ok rfl h2) (allApp (e9f_ok rfl h3) (allApp (e9t_ok rfl h4) (allApp (e9t_ok rfl h5) (allApp (e9t_ok rfl h7) ibNil))))))))).tab
theorem L_law_56_run : okTrue (@call (T_L_law_56 b h0 h1 h2 h3 h4 h5 h7) Tryz.prog ((inHand C_Read4_0).or ((inHand C_Read1_1).or ((H_access_k_false).or ((H_access_f_true).or H_CF0a)))) 5000 3 [.oi 0, .oi 1, .oi 2, .oi 3] H.empty) = true := (by as_aux_lemma => kernel_rfl)
end
theorem L_law_56 {m c f k : Nat} (b : Bd m c f k) (h0 : vA c 512 = (0)) (h1 : vA k 1024 = (0)) (h2 : vN c 1585 = (0)) (h3 : ¬ vA c 16 = (0)) (h4 : vA c 1024 = (0)) (h5 : vN f 31 = (0)) (h6 : acc f = true) (h7 : vN k 1055 = (0)) (h8 : acc k = false) (h9 : @InOk Tryz.prog C_Read1_1 (TB m c f k)) (h10 : @InOk Tryz.prog C_Read4_0 (TB m c f k)) (w : World) : Gives m c f k w := by
  letI : Tab := (T_L_law_56 b h0 h1 h2 h3 h4 h5 h7)
  obtain ⟨q_, hq_⟩ := CallOk.of_okTrue (P := Tryz.prog) mixed (HandOk.or (inHand_ok (InOk.tab (VRows.same _ _) h10) (by kernel_rfl)) (HandOk.or (inHand_ok (InOk.tab (VRows.same _ _) h9) (by kernel_rfl)) (HandOk.or (H_access_k_false_ok b h8 (VRows.same _ _)) (HandOk.or (H_access_f_true_ok b h6 (VRows.same _ _)) H_CF0a_ok)))) (L_law_56_run b h0 h1 h2 h3 h4 h5 h7)
  exact gives hq_ w rfl rfl rfl rfl rfl rfl
section
variable {m c f k : Nat} (b : Bd m c f k) (h0 : vA c 512 = (0)) (h1 : vA k 1024 = (0)) (h2 : vN c 1585 = (0)) (h3 : vA c 16 = (0)) (h4 : vN f 31 = (0))
abbrev T_L_law_57 : Tab := (RC b (e9t 4 (0) ++ (e9t 5 (0) ++ (e9t 6 (0) ++ (e9t 7 (0) ++ (e9t 8 (0) ++ ([])))))) (by letI := Tab.empty; exact (allApp (e9t_ok rfl h0) (allApp (e9t_ok rfl h1) (allApp (e9t_ok rfl h2) (allApp (e9t_ok rfl h3) (allApp (e9t_ok rfl h4) ibNil))))))).tab
theorem L_law_57_run : okTrue (@call (T_L_law_57 b h0 h1 h2 h3 h4) Tryz.prog ((inHand C_Read6_0).or ((inHand C_Read1_4).or ((H_access_f_false).or H_CF0a))) 5000 3 [.oi 0, .oi 1, .oi 2, .oi 3] H.empty) = true := (by as_aux_lemma => kernel_rfl)
end
theorem L_law_57 {m c f k : Nat} (b : Bd m c f k) (h0 : vA c 512 = (0)) (h1 : vA k 1024 = (0)) (h2 : vN c 1585 = (0)) (h3 : vA c 16 = (0)) (h4 : vN f 31 = (0)) (h5 : acc f = false) (h6 : @InOk Tryz.prog C_Read1_4 (TB m c f k)) (h7 : @InOk Tryz.prog C_Read6_0 (TB m c f k)) (w : World) : Gives m c f k w := by
  letI : Tab := (T_L_law_57 b h0 h1 h2 h3 h4)
  obtain ⟨q_, hq_⟩ := CallOk.of_okTrue (P := Tryz.prog) mixed (HandOk.or (inHand_ok (InOk.tab (VRows.same _ _) h7) (by kernel_rfl)) (HandOk.or (inHand_ok (InOk.tab (VRows.same _ _) h6) (by kernel_rfl)) (HandOk.or (H_access_f_false_ok b h5 (VRows.same _ _)) H_CF0a_ok))) (L_law_57_run b h0 h1 h2 h3 h4)
  exact gives hq_ w rfl rfl rfl rfl rfl rfl
section
variable {m c f k : Nat} (b : Bd m c f k) (h0 : ¬ vA c 512 = (0)) (h1 : ¬ vA k 1024 = (0)) (h2 : vN c 1585 = (0)) (h3 : ¬ vA c 16 = (0)) (h4 : ¬ vA c 1024 = (0))
abbrev T_L_law_58 : Tab := (RC b (e9f 4 (0) ++ (e9f 5 (0) ++ (e9t 6 (0) ++ (e9f 7 (0) ++ (e9f 25 (0) ++ ([])))))) (by letI := Tab.empty; exact (allApp (e9f_ok rfl h0) (allApp (e9f_ok rfl h1) (allApp (e9t_ok rfl h2) (allApp (e9f_ok rfl h3) (allApp (e9f_ok rfl h4) ibNil))))))).tab
theorem L_law_58_run : okTrue (@call (T_L_law_58 b h0 h1 h2 h3 h4) Tryz.prog ((inHand C_Read7_0).or ((inHand C_Read3_3).or H_CF0a)) 5000 3 [.oi 0, .oi 1, .oi 2, .oi 3] H.empty) = true := (by as_aux_lemma => kernel_rfl)
end
theorem L_law_58 {m c f k : Nat} (b : Bd m c f k) (h0 : ¬ vA c 512 = (0)) (h1 : ¬ vA k 1024 = (0)) (h2 : vN c 1585 = (0)) (h3 : ¬ vA c 16 = (0)) (h4 : ¬ vA c 1024 = (0)) (h5 : @InOk Tryz.prog C_Read3_3 (TB m c f k)) (h6 : @InOk Tryz.prog C_Read7_0 (TB m c f k)) (w : World) : Gives m c f k w := by
  letI : Tab := (T_L_law_58 b h0 h1 h2 h3 h4)
  obtain ⟨q_, hq_⟩ := CallOk.of_okTrue (P := Tryz.prog) mixed (HandOk.or (inHand_ok (InOk.tab (VRows.same _ _) h6) (by kernel_rfl)) (HandOk.or (inHand_ok (InOk.tab (VRows.same _ _) h5) (by kernel_rfl)) H_CF0a_ok)) (L_law_58_run b h0 h1 h2 h3 h4)
  exact gives hq_ w rfl rfl rfl rfl rfl rfl
section
variable {m c f k : Nat} (b : Bd m c f k) (h0 : ¬ vA c 512 = (0)) (h1 : ¬ vA k 1024 = (0)) (h2 : vN c 1585 = (0)) (h3 : vA c 16 = (0)) (h4 : vA c 1024 = (0))
abbrev T_L_law_59 : Tab := (RC b (e9f 4 (0) ++ (e9f 5 (0) ++ (e9t 6 (0) ++ (e9t 7 (0) ++ (e9t 25 (0) ++ ([])))))) (by letI := Tab.empty; exact (allApp (e9f_ok rfl h0) (allApp (e9f_ok rfl h1) (allApp (e9t_ok rfl h2) (allApp (e9t_ok rfl h3) (allApp (e9t_ok rfl h4) ibNil))))))).tab
theorem L_law_59_run : okTrue (@call (T_L_law_59 b h0 h1 h2 h3 h4) Tryz.prog ((inHand C_Read7_0).or ((inHand C_Read3_3).or H_CF0a)) 5000 3 [.oi 0, .oi 1, .oi 2, .oi 3] H.empty) = true := (by as_aux_lemma => kernel_rfl)
end
theorem L_law_59 {m c f k : Nat} (b : Bd m c f k) (h0 : ¬ vA c 512 = (0)) (h1 : ¬ vA k 1024 = (0)) (h2 : vN c 1585 = (0)) (h3 : vA c 16 = (0)) (h4 : vA c 1024 = (0)) (h5 : @InOk Tryz.prog C_Read3_3 (TB m c f k)) (h6 : @InOk Tryz.prog C_Read7_0 (TB m c f k)) (w : World) : Gives m c f k w := by
  letI : Tab := (T_L_law_59 b h0 h1 h2 h3 h4)
  obtain ⟨q_, hq_⟩ := CallOk.of_okTrue (P := Tryz.prog) mixed (HandOk.or (inHand_ok (InOk.tab (VRows.same _ _) h6) (by kernel_rfl)) (HandOk.or (inHand_ok (InOk.tab (VRows.same _ _) h5) (by kernel_rfl)) H_CF0a_ok)) (L_law_59_run b h0 h1 h2 h3 h4)
  exact gives hq_ w rfl rfl rfl rfl rfl rfl
section
variable {m c f k : Nat} (b : Bd m c f k) (h0 : vA c 512 = (0)) (h1 : ¬ vA k 1024 = (0)) (h2 : vN c 1585 = (0)) (h3 : ¬ vA c 16 = (0)) (h4 : vA c 1024 = (0)) (h5 : ¬ vN f 31 = (0))
abbrev T_L_law_60 : Tab := (RC b (e9t 4 (0) ++ (e9f 5 (0) ++ (e9t 6 (0) ++ (e9f 7 (0) ++ (e9t 25 (0) ++ (e9f 8 (0) ++ ([]))))))) (by letI := Tab.empty; exact (allApp (e9t_ok rfl h0) (allApp (e9f_ok rfl h1) (allApp (e9t_ok rfl h2) (allApp (e9f_ok rfl h3) (allApp (e9t_ok rfl h4) (allApp (e9f_ok rfl h5) ibNil)))))))).tab
theorem L_law_60_run : okTrue (@call (T_L_law_60 b h0 h1 h2 h3 h4 h5) Tryz.prog ((inHand C_Read8_0).or ((inHand C_Read3_4).or H_CF0a)) 5000 3 [.oi 0, .oi 1, .oi 2, .oi 3] H.empty) = true := (by as_aux_lemma => kernel_rfl)
end
theorem L_law_60 {m c f k : Nat} (b : Bd m c f k) (h0 : vA c 512 = (0)) (h1 : ¬ vA k 1024 = (0)) (h2 : vN c 1585 = (0)) (h3 : ¬ vA c 16 = (0)) (h4 : vA c 1024 = (0)) (h5 : ¬ vN f 31 = (0)) (h6 : @InOk Tryz.prog C_Read3_4 (TB m c f k)) (h7 : @InOk Tryz.prog C_Read8_0 (TB m c f k)) (w : World) : Gives m c f k w := by
  letI : Tab := (T_L_law_60 b h0 h1 h2 h3 h4 h5)
  obtain ⟨q_, hq_⟩ := CallOk.of_okTrue (P := Tryz.prog) mixed (HandOk.or (inHand_ok (InOk.tab (VRows.same _ _) h7) (by kernel_rfl)) (HandOk.or (inHand_ok (InOk.tab (VRows.same _ _) h6) (by kernel_rfl)) H_CF0a_ok)) (L_law_60_run b h0 h1 h2 h3 h4 h5)
  exact gives hq_ w rfl rfl rfl rfl rfl rfl
section
variable {m c f k : Nat} (b : Bd m c f k) (h0 : vA c 512 = (0)) (h1 : ¬ vA k 1024 = (0)) (h2 : vN c 1585 = (0)) (h3 : ¬ vA c 16 = (0)) (h4 : vA c 1024 = (0)) (h5 : vN f 31 = (0))
abbrev T_L_law_61 : Tab := (RC b (e9t 4 (0) ++ (e9f 5 (0) ++ (e9t 6 (0) ++ (e9f 7 (0) ++ (e9t 25 (0) ++ (e9t 8 (0) ++ ([]))))))) (by letI := Tab.empty; exact (allApp (e9t_ok rfl h0) (allApp (e9f_ok rfl h1) (allApp (e9t_ok rfl h2) (allApp (e9f_ok rfl h3) (allApp (e9t_ok rfl h4) (allApp (e9t_ok rfl h5) ibNil)))))))).tab
theorem L_law_61_run : okTrue (@call (T_L_law_61 b h0 h1 h2 h3 h4 h5) Tryz.prog ((inHand C_Read8_0).or ((inHand C_Read3_4).or ((H_access_f_false).or H_CF0a))) 5000 3 [.oi 0, .oi 1, .oi 2, .oi 3] H.empty) = true := (by as_aux_lemma => kernel_rfl)
end
theorem L_law_61 {m c f k : Nat} (b : Bd m c f k) (h0 : vA c 512 = (0)) (h1 : ¬ vA k 1024 = (0)) (h2 : vN c 1585 = (0)) (h3 : ¬ vA c 16 = (0)) (h4 : vA c 1024 = (0)) (h5 : vN f 31 = (0)) (h6 : acc f = false) (h7 : @InOk Tryz.prog C_Read3_4 (TB m c f k)) (h8 : @InOk Tryz.prog C_Read8_0 (TB m c f k)) (w : World) : Gives m c f k w := by
  letI : Tab := (T_L_law_61 b h0 h1 h2 h3 h4 h5)
  obtain ⟨q_, hq_⟩ := CallOk.of_okTrue (P := Tryz.prog) mixed (HandOk.or (inHand_ok (InOk.tab (VRows.same _ _) h8) (by kernel_rfl)) (HandOk.or (inHand_ok (InOk.tab (VRows.same _ _) h7) (by kernel_rfl)) (HandOk.or (H_access_f_false_ok b h6 (VRows.same _ _)) H_CF0a_ok))) (L_law_61_run b h0 h1 h2 h3 h4 h5)
  exact gives hq_ w rfl rfl rfl rfl rfl rfl
section
variable {m c f k : Nat} (b : Bd m c f k) (h0 : vA c 512 = (0)) (h1 : vA k 1024 = (0)) (h2 : vN c 1585 = (0)) (h3 : ¬ vA c 16 = (0)) (h4 : vA c 1024 = (0)) (h5 : vN f 31 = (0)) (h7 : vN k 1055 = (0))
abbrev T_L_law_62 : Tab := (RC b (e9t 4 (0) ++ (e9t 5 (0) ++ (e9t 6 (0) ++ (e9f 7 (0) ++ (e9t 25 (0) ++ (e9t 8 (0) ++ (e9t 10 (0) ++ ([])))))))) (by letI := Tab.empty; exact (allApp (e9t_ok rfl h0) (allApp (e9t_ok rfl h1) (allApp (e9t_ok rfl h2) (allApp (e9f_ok rfl h3) (allApp (e9t_ok rfl h4) (allApp (e9t_ok rfl h5) (allApp (e9t_ok rfl h7) ibNil))))))))).tab
theorem L_law_62_run : okTrue (@call (T_L_law_62 b h0 h1 h2 h3 h4 h5 h7) Tryz.prog ((inHand C_Read4_1).or ((inHand C_Read1_2).or ((H_access_k_false).or ((H_access_f_true).or H_CF0a)))) 5000 3 [.oi 0, .oi 1, .oi 2, .oi 3] H.empty) = true := (by as_aux_lemma => kernel_rfl)
end
theorem L_law_62 {m c f k : Nat} (b : Bd m c f k) (h0 : vA c 512 = (0)) (h1 : vA k 1024 = (0)) (h2 : vN c 1585 = (0)) (h3 : ¬ vA c 16 = (0)) (h4 : vA c 1024 = (0)) (h5 : vN f 31 = (0)) (h6 : acc f = true) (h7 : vN k 1055 = (0)) (h8 : acc k = false) (h9 : @InOk Tryz.prog C_Read1_2 (TB m c f k)) (h10 : @InOk Tryz.prog C_Read4_1 (TB m c f k)) (w : World) : Gives m c f k w := by
  letI : Tab := (T_L_law_62 b h0 h1 h2 h3 h4 h5 h7)
  obtain ⟨q_, hq_⟩ := CallOk.of_okTrue (P := Tryz.prog) mixed (HandOk.or (inHand_ok (InOk.tab (VRows.same _ _) h10) (by kernel_rfl)) (HandOk.or (inHand_ok (InOk.tab (VRows.same _ _) h9) (by kernel_rfl)) (HandOk.or (H_access_k_false_ok b h8 (VRows.same _ _)) (HandOk.or (H_access_f_true_ok b h6 (VRows.same _ _)) H_CF0a_ok)))) (L_law_62_run b h0 h1 h2 h3 h4 h5 h7)
  exact gives hq_ w rfl rfl rfl rfl rfl rfl
section
variable {m c f k : Nat} (b : Bd m c f k) (h0 : vA c 512 = (0)) (h1 : ¬ vA k 1024 = (0)) (h2 : vN c 1585 = (0)) (h3 : vA c 16 = (0)) (h4 : vN f 31 = (0))
abbrev T_L_law_63 : Tab := (RC b (e9t 4 (0) ++ (e9f 5 (0) ++ (e9t 6 (0) ++ (e9t 7 (0) ++ (e9t 8 (0) ++ ([])))))) (by letI := Tab.empty; exact (allApp (e9t_ok rfl h0) (allApp (e9f_ok rfl h1) (allApp (e9t_ok rfl h2) (allApp (e9t_ok rfl h3) (allApp (e9t_ok rfl h4) ibNil))))))).tab
theorem L_law_63_run : okTrue (@call (T_L_law_63 b h0 h1 h2 h3 h4) Tryz.prog ((inHand C_Read8_0).or ((inHand C_Read3_4).or ((H_access_f_false).or H_CF0a))) 5000 3 [.oi 0, .oi 1, .oi 2, .oi 3] H.empty) = true := (by as_aux_lemma => kernel_rfl)
end
theorem L_law_63 {m c f k : Nat} (b : Bd m c f k) (h0 : vA c 512 = (0)) (h1 : ¬ vA k 1024 = (0)) (h2 : vN c 1585 = (0)) (h3 : vA c 16 = (0)) (h4 : vN f 31 = (0)) (h5 : acc f = false) (h6 : @InOk Tryz.prog C_Read3_4 (TB m c f k)) (h7 : @InOk Tryz.prog C_Read8_0 (TB m c f k)) (w : World) : Gives m c f k w := by
  letI : Tab := (T_L_law_63 b h0 h1 h2 h3 h4)
  obtain ⟨q_, hq_⟩ := CallOk.of_okTrue (P := Tryz.prog) mixed (HandOk.or (inHand_ok (InOk.tab (VRows.same _ _) h7) (by kernel_rfl)) (HandOk.or (inHand_ok (InOk.tab (VRows.same _ _) h6) (by kernel_rfl)) (HandOk.or (H_access_f_false_ok b h5 (VRows.same _ _)) H_CF0a_ok))) (L_law_63_run b h0 h1 h2 h3 h4)
  exact gives hq_ w rfl rfl rfl rfl rfl rfl
end Go.Proofs.YtlfinnicdpiaaaaGreatDoor.cf
