/-
  Runs of law under the flags by name.
-/
import Derived.Test.YtlfinnicdpiaaaaGreatDoorXN3
import Derived.Test.YtlfinnicdpiaaaaGreatDoorCFB
import Derived.Test.YtlfinnicdpiaaaaGreatDoorCFC
import Derived.KernelRfl
set_option linter.unusedVariables false
set_option linter.unusedSimpArgs false
set_option maxRecDepth 1000000
set_option maxHeartbeats 0
namespace Go.Proofs.YtlfinnicdpiaaaaGreatDoor.cf
open Go.X Go.RowKit
section
variable {m c f k : Nat} (b : Bd m c f k) (h0 : ¬ vA c 512 = (0)) (h1 : ¬ vA k 1024 = (0)) (h2 : vN c 1585 = (0)) (h3 : vA c 16 = (0)) (h4 : ¬ vA c 1024 = (0)) (h5 : (f : Int) = (25)) (h6 : vN k 1055 = (0)) (h8 : vA k 26 = (0)) (h9 : vA k 20 = (0)) (h10 : vA k 3 = (0))
abbrev T_L_law_64 : Tab := (RC b (e9f 4 (0) ++ (e9f 5 (0) ++ (e9t 6 (0) ++ (e9t 7 (0) ++ (e9f 25 (0) ++ (e9t 2 (25) ++ (e9t 10 (0) ++ (e9t 73 (0) ++ (e9t 74 (0) ++ (e9t 75 (0) ++ ([]))))))))))) (by letI := Tab.empty; exact (allApp (e9f_ok rfl h0) (allApp (e9f_ok rfl h1) (allApp (e9t_ok rfl h2) (allApp (e9t_ok rfl h3) (allApp (e9f_ok rfl h4) (allApp (e9t_ok rfl h5) (allApp (e9t_ok rfl h6) (allApp (e9t_ok rfl h8) (allApp (e9t_ok rfl h9) (allApp (e9t_ok rfl h10) ibNil)))))))))))).tab
theorem L_law_64_run : okTrue (@call (T_L_law_64 b h0 h1 h2 h3 h4 h5 h6 h8 h9 h10) Tryz.prog ((inHand C_Read2_1).or ((inHand C_Read3_1).or ((H_access_k_true).or H_CF0a))) 5000 3 [.oi 0, .oi 1, .oi 2, .oi 3] H.empty) = true := (by as_aux_lemma => kernel_rfl)
end
theorem L_law_64 {m c f k : Nat} (b : Bd m c f k) (h0 : ¬ vA c 512 = (0)) (h1 : ¬ vA k 1024 = (0)) (h2 : vN c 1585 = (0)) (h3 : vA c 16 = (0)) (h4 : ¬ vA c 1024 = (0)) (h5 : (f : Int) = (25)) (h6 : vN k 1055 = (0)) (h7 : acc k = true) (h8 : vA k 26 = (0)) (h9 : vA k 20 = (0)) (h10 : vA k 3 = (0)) (h11 : @InOk Tryz.prog C_Read3_1 (TB m c f k)) (h12 : @InOk Tryz.prog C_Read2_1 (TB m c f k)) (w : World) : Gives m c f k w := by
  letI : Tab := (T_L_law_64 b h0 h1 h2 h3 h4 h5 h6 h8 h9 h10)
  obtain ⟨q_, hq_⟩ := CallOk.of_okTrue (P := Tryz.prog) mixed (HandOk.or (inHand_ok (InOk.tab (VRows.same _ _) h12) (by kernel_rfl)) (HandOk.or (inHand_ok (InOk.tab (VRows.same _ _) h11) (by kernel_rfl)) (HandOk.or (H_access_k_true_ok b h7 (VRows.same _ _)) H_CF0a_ok))) (L_law_64_run b h0 h1 h2 h3 h4 h5 h6 h8 h9 h10)
  exact gives hq_ w rfl rfl rfl rfl rfl rfl
section
variable {m c f k : Nat} (b : Bd m c f k) (h0 : vA c 512 = (0)) (h1 : vA k 1024 = (0)) (h2 : vN c 1585 = (0)) (h3 : ¬ vA c 16 = (0)) (h4 : ¬ vA c 1024 = (0))
abbrev T_L_law_65 : Tab := (RC b (e9t 4 (0) ++ (e9t 5 (0) ++ (e9t 6 (0) ++ (e9f 7 (0) ++ (e9f 25 (0) ++ ([])))))) (by letI := Tab.empty; exact (allApp (e9t_ok rfl h0) (allApp (e9t_ok rfl h1) (allApp (e9t_ok rfl h2) (allApp (e9f_ok rfl h3) (allApp (e9f_ok rfl h4) ibNil))))))).tab
theorem L_law_65_run : okTrue (@call (T_L_law_65 b h0 h1 h2 h3 h4) Tryz.prog ((inHand C_Read0_0).or ((inHand C_Read1_0).or H_CF0a)) 5000 3 [.oi 0, .oi 1, .oi 2, .oi 3] H.empty) = true := (by as_aux_lemma => kernel_rfl)
end
theorem L_law_65 {m c f k : Nat} (b : Bd m c f k) (h0 : vA c 512 = (0)) (h1 : vA k 1024 = (0)) (h2 : vN c 1585 = (0)) (h3 : ¬ vA c 16 = (0)) (h4 : ¬ vA c 1024 = (0)) (h5 : @InOk Tryz.prog C_Read1_0 (TB m c f k)) (h6 : @InOk Tryz.prog C_Read0_0 (TB m c f k)) (w : World) : Gives m c f k w := by
  letI : Tab := (T_L_law_65 b h0 h1 h2 h3 h4)
  obtain ⟨q_, hq_⟩ := CallOk.of_okTrue (P := Tryz.prog) mixed (HandOk.or (inHand_ok (InOk.tab (VRows.same _ _) h6) (by kernel_rfl)) (HandOk.or (inHand_ok (InOk.tab (VRows.same _ _) h5) (by kernel_rfl)) H_CF0a_ok)) (L_law_65_run b h0 h1 h2 h3 h4)
  exact gives hq_ w rfl rfl rfl rfl rfl rfl
section
variable {m c f k : Nat} (b : Bd m c f k) (h0 : ¬ vA c 512 = (0)) (h1 : ¬ vA k 1024 = (0)) (h2 : vN c 1585 = (0)) (h3 : vA c 16 = (0)) (h4 : ¬ vA c 1024 = (0)) (h5 : (f : Int) = (25)) (h6 : vN k 1055 = (0)) (h8 : vA k 26 = (0)) (h9 : vA k 20 = (0)) (h10 : ¬ vA k 3 = (0)) (h11 : (m : Int) = (52))
abbrev T_L_law_66 : Tab := (RC b (e9f 4 (0) ++ (e9f 5 (0) ++ (e9t 6 (0) ++ (e9t 7 (0) ++ (e9f 25 (0) ++ (e9t 2 (25) ++ (e9t 10 (0) ++ (e9t 73 (0) ++ (e9t 74 (0) ++ (e9f 75 (0) ++ (e9t 0 (52) ++ ([])))))))))))) (by letI := Tab.empty; exact (allApp (e9f_ok rfl h0) (allApp (e9f_ok rfl h1) (allApp (e9t_ok rfl h2) (allApp (e9t_ok rfl h3) (allApp (e9f_ok rfl h4) (allApp (e9t_ok rfl h5) (allApp (e9t_ok rfl h6) (allApp (e9t_ok rfl h8) (allApp (e9t_ok rfl h9) (allApp (e9f_ok rfl h10) (allApp (e9t_ok rfl h11) ibNil))))))))))))).tab
theorem L_law_66_run : okTrue (@call (T_L_law_66 b h0 h1 h2 h3 h4 h5 h6 h8 h9 h10 h11) Tryz.prog ((inHand C_Read2_2).or ((inHand C_Read3_2).or ((H_access_k_true).or H_CF0a))) 5000 3 [.oi 0, .oi 1, .oi 2, .oi 3] H.empty) = true := (by as_aux_lemma => kernel_rfl)
end
theorem L_law_66 {m c f k : Nat} (b : Bd m c f k) (h0 : ¬ vA c 512 = (0)) (h1 : ¬ vA k 1024 = (0)) (h2 : vN c 1585 = (0)) (h3 : vA c 16 = (0)) (h4 : ¬ vA c 1024 = (0)) (h5 : (f : Int) = (25)) (h6 : vN k 1055 = (0)) (h7 : acc k = true) (h8 : vA k 26 = (0)) (h9 : vA k 20 = (0)) (h10 : ¬ vA k 3 = (0)) (h11 : (m : Int) = (52)) (h12 : @InOk Tryz.prog C_Read3_2 (TB m c f k)) (h13 : @InOk Tryz.prog C_Read2_2 (TB m c f k)) (w : World) : Gives m c f k w := by
  letI : Tab := (T_L_law_66 b h0 h1 h2 h3 h4 h5 h6 h8 h9 h10 h11)
  obtain ⟨q_, hq_⟩ := CallOk.of_okTrue (P := Tryz.prog) mixed (HandOk.or (inHand_ok (InOk.tab (VRows.same _ _) h13) (by kernel_rfl)) (HandOk.or (inHand_ok (InOk.tab (VRows.same _ _) h12) (by kernel_rfl)) (HandOk.or (H_access_k_true_ok b h7 (VRows.same _ _)) H_CF0a_ok))) (L_law_66_run b h0 h1 h2 h3 h4 h5 h6 h8 h9 h10 h11)
  exact gives hq_ w rfl rfl rfl rfl rfl rfl
section
variable {m c f k : Nat} (b : Bd m c f k) (h0 : ¬ vA c 512 = (0)) (h1 : vA k 1024 = (0)) (h2 : vN c 1585 = (0)) (h3 : vA c 16 = (0)) (h4 : ¬ vA c 1024 = (0)) (h5 : (f : Int) = (25)) (h6 : vN k 1055 = (0)) (h8 : vA k 20 = (0)) (h9 : vA k 3 = (0))
abbrev T_L_law_67 : Tab := (RC b (e9f 4 (0) ++ (e9t 5 (0) ++ (e9t 6 (0) ++ (e9t 7 (0) ++ (e9f 25 (0) ++ (e9t 2 (25) ++ (e9t 10 (0) ++ (e9t 74 (0) ++ (e9t 75 (0) ++ ([])))))))))) (by letI := Tab.empty; exact (allApp (e9f_ok rfl h0) (allApp (e9t_ok rfl h1) (allApp (e9t_ok rfl h2) (allApp (e9t_ok rfl h3) (allApp (e9f_ok rfl h4) (allApp (e9t_ok rfl h5) (allApp (e9t_ok rfl h6) (allApp (e9t_ok rfl h8) (allApp (e9t_ok rfl h9) ibNil))))))))))).tab
theorem L_law_67_run : okTrue (@call (T_L_law_67 b h0 h1 h2 h3 h4 h5 h6 h8 h9) Tryz.prog ((inHand C_Read4_0).or ((inHand C_Read1_1).or ((H_access_k_true).or H_CF0a))) 5000 3 [.oi 0, .oi 1, .oi 2, .oi 3] H.empty) = true := (by as_aux_lemma => kernel_rfl)
end
theorem L_law_67 {m c f k : Nat} (b : Bd m c f k) (h0 : ¬ vA c 512 = (0)) (h1 : vA k 1024 = (0)) (h2 : vN c 1585 = (0)) (h3 : vA c 16 = (0)) (h4 : ¬ vA c 1024 = (0)) (h5 : (f : Int) = (25)) (h6 : vN k 1055 = (0)) (h7 : acc k = true) (h8 : vA k 20 = (0)) (h9 : vA k 3 = (0)) (h10 : @InOk Tryz.prog C_Read1_1 (TB m c f k)) (h11 : @InOk Tryz.prog C_Read4_0 (TB m c f k)) (w : World) : Gives m c f k w := by
  letI : Tab := (T_L_law_67 b h0 h1 h2 h3 h4 h5 h6 h8 h9)
  obtain ⟨q_, hq_⟩ := CallOk.of_okTrue (P := Tryz.prog) mixed (HandOk.or (inHand_ok (InOk.tab (VRows.same _ _) h11) (by kernel_rfl)) (HandOk.or (inHand_ok (InOk.tab (VRows.same _ _) h10) (by kernel_rfl)) (HandOk.or (H_access_k_true_ok b h7 (VRows.same _ _)) H_CF0a_ok))) (L_law_67_run b h0 h1 h2 h3 h4 h5 h6 h8 h9)
  exact gives hq_ w rfl rfl rfl rfl rfl rfl
section
variable {m c f k : Nat} (b : Bd m c f k) (h0 : vA c 512 = (0)) (h1 : ¬ vA k 1024 = (0)) (h2 : vN c 1585 = (0)) (h3 : ¬ vA c 16 = (0)) (h4 : ¬ vA c 1024 = (0))
abbrev T_L_law_68 : Tab := (RC b (e9t 4 (0) ++ (e9f 5 (0) ++ (e9t 6 (0) ++ (e9f 7 (0) ++ (e9f 25 (0) ++ ([])))))) (by letI := Tab.empty; exact (allApp (e9t_ok rfl h0) (allApp (e9f_ok rfl h1) (allApp (e9t_ok rfl h2) (allApp (e9f_ok rfl h3) (allApp (e9f_ok rfl h4) ibNil))))))).tab
theorem L_law_68_run : okTrue (@call (T_L_law_68 b h0 h1 h2 h3 h4) Tryz.prog ((inHand C_Read7_0).or ((inHand C_Read3_3).or H_CF0a)) 5000 3 [.oi 0, .oi 1, .oi 2, .oi 3] H.empty) = true := (by as_aux_lemma => kernel_rfl)
end
theorem L_law_68 {m c f k : Nat} (b : Bd m c f k) (h0 : vA c 512 = (0)) (h1 : ¬ vA k 1024 = (0)) (h2 : vN c 1585 = (0)) (h3 : ¬ vA c 16 = (0)) (h4 : ¬ vA c 1024 = (0)) (h5 : @InOk Tryz.prog C_Read3_3 (TB m c f k)) (h6 : @InOk Tryz.prog C_Read7_0 (TB m c f k)) (w : World) : Gives m c f k w := by
  letI : Tab := (T_L_law_68 b h0 h1 h2 h3 h4)
  obtain ⟨q_, hq_⟩ := CallOk.of_okTrue (P := Tryz.prog) mixed (HandOk.or (inHand_ok (InOk.tab (VRows.same _ _) h6) (by kernel_rfl)) (HandOk.or (inHand_ok (InOk.tab (VRows.same _ _) h5) (by kernel_rfl)) H_CF0a_ok)) (L_law_68_run b h0 h1 h2 h3 h4)
  exact gives hq_ w rfl rfl rfl rfl rfl rfl
section
variable {m c f k : Nat} (b : Bd m c f k) (h0 : ¬ vA c 512 = (0)) (h1 : ¬ vA k 1024 = (0)) (h2 : vN c 1585 = (0)) (h3 : vA c 16 = (0)) (h4 : ¬ vA c 1024 = (0)) (h5 : (f : Int) = (25)) (h6 : vN k 1055 = (0)) (h8 : vA k 26 = (0)) (h9 : vA k 20 = (0)) (h10 : ¬ vA k 3 = (0)) (h11 : ¬ (m : Int) = (52)) (h12 : (k : Int) = (1025))
abbrev T_L_law_69 : Tab := (RC b (e9f 4 (0) ++ (e9f 5 (0) ++ (e9t 6 (0) ++ (e9t 7 (0) ++ (e9f 25 (0) ++ (e9t 2 (25) ++ (e9t 10 (0) ++ (e9t 73 (0) ++ (e9t 74 (0) ++ (e9f 75 (0) ++ (e9f 0 (52) ++ (e9t 3 (1025) ++ ([]))))))))))))) (by letI := Tab.empty; exact (allApp (e9f_ok rfl h0) (allApp (e9f_ok rfl h1) (allApp (e9t_ok rfl h2) (allApp (e9t_ok rfl h3) (allApp (e9f_ok rfl h4) (allApp (e9t_ok rfl h5) (allApp (e9t_ok rfl h6) (allApp (e9t_ok rfl h8) (allApp (e9t_ok rfl h9) (allApp (e9f_ok rfl h10) (allApp (e9f_ok rfl h11) (allApp (e9t_ok rfl h12) ibNil)))))))))))))).tab
theorem L_law_69_run : okTrue (@call (T_L_law_69 b h0 h1 h2 h3 h4 h5 h6 h8 h9 h10 h11 h12) Tryz.prog ((inHand C_Read2_2).or ((inHand C_Read3_2).or ((H_access_k_true).or H_CF0a))) 5000 3 [.oi 0, .oi 1, .oi 2, .oi 3] H.empty) = true := (by as_aux_lemma => kernel_rfl)
end
theorem L_law_69 {m c f k : Nat} (b : Bd m c f k) (h0 : ¬ vA c 512 = (0)) (h1 : ¬ vA k 1024 = (0)) (h2 : vN c 1585 = (0)) (h3 : vA c 16 = (0)) (h4 : ¬ vA c 1024 = (0)) (h5 : (f : Int) = (25)) (h6 : vN k 1055 = (0)) (h7 : acc k = true) (h8 : vA k 26 = (0)) (h9 : vA k 20 = (0)) (h10 : ¬ vA k 3 = (0)) (h11 : ¬ (m : Int) = (52)) (h12 : (k : Int) = (1025)) (h13 : @InOk Tryz.prog C_Read3_2 (TB m c f k)) (h14 : @InOk Tryz.prog C_Read2_2 (TB m c f k)) (w : World) : Gives m c f k w := by
  letI : Tab := (T_L_law_69 b h0 h1 h2 h3 h4 h5 h6 h8 h9 h10 h11 h12)
  obtain ⟨q_, hq_⟩ := CallOk.of_okTrue (P := Tryz.prog) mixed (HandOk.or (inHand_ok (InOk.tab (VRows.same _ _) h14) (by kernel_rfl)) (HandOk.or (inHand_ok (InOk.tab (VRows.same _ _) h13) (by kernel_rfl)) (HandOk.or (H_access_k_true_ok b h7 (VRows.same _ _)) H_CF0a_ok))) (L_law_69_run b h0 h1 h2 h3 h4 h5 h6 h8 h9 h10 h11 h12)
  exact gives hq_ w rfl rfl rfl rfl rfl rfl
section
variable {m c f k : Nat} (b : Bd m c f k) (h0 : ¬ vA c 512 = (0)) (h1 : vA k 1024 = (0)) (h2 : vN c 1585 = (0)) (h3 : vA c 16 = (0)) (h4 : ¬ vA c 1024 = (0)) (h5 : ¬ (f : Int) = (25))
abbrev T_L_law_70 : Tab := (RC b (e9f 4 (0) ++ (e9t 5 (0) ++ (e9t 6 (0) ++ (e9t 7 (0) ++ (e9f 25 (0) ++ (e9f 2 (25) ++ ([]))))))) (by letI := Tab.empty; exact (allApp (e9f_ok rfl h0) (allApp (e9t_ok rfl h1) (allApp (e9t_ok rfl h2) (allApp (e9t_ok rfl h3) (allApp (e9f_ok rfl h4) (allApp (e9f_ok rfl h5) ibNil)))))))).tab
theorem L_law_70_run : okTrue (@call (T_L_law_70 b h0 h1 h2 h3 h4 h5) Tryz.prog ((inHand C_Read6_0).or ((inHand C_Read1_4).or H_CF0a)) 5000 3 [.oi 0, .oi 1, .oi 2, .oi 3] H.empty) = true := (by as_aux_lemma => kernel_rfl)
end
theorem L_law_70 {m c f k : Nat} (b : Bd m c f k) (h0 : ¬ vA c 512 = (0)) (h1 : vA k 1024 = (0)) (h2 : vN c 1585 = (0)) (h3 : vA c 16 = (0)) (h4 : ¬ vA c 1024 = (0)) (h5 : ¬ (f : Int) = (25)) (h6 : @InOk Tryz.prog C_Read1_4 (TB m c f k)) (h7 : @InOk Tryz.prog C_Read6_0 (TB m c f k)) (w : World) : Gives m c f k w := by
  letI : Tab := (T_L_law_70 b h0 h1 h2 h3 h4 h5)
  obtain ⟨q_, hq_⟩ := CallOk.of_okTrue (P := Tryz.prog) mixed (HandOk.or (inHand_ok (InOk.tab (VRows.same _ _) h7) (by kernel_rfl)) (HandOk.or (inHand_ok (InOk.tab (VRows.same _ _) h6) (by kernel_rfl)) H_CF0a_ok)) (L_law_70_run b h0 h1 h2 h3 h4 h5)
  exact gives hq_ w rfl rfl rfl rfl rfl rfl
section
variable {m c f k : Nat} (b : Bd m c f k) (h0 : vA c 512 = (0)) (h1 : vA k 1024 = (0)) (h2 : vN c 1585 = (0)) (h3 : vA c 16 = (0)) (h4 : ¬ vN f 31 = (0))
abbrev T_L_law_71 : Tab := (RC b (e9t 4 (0) ++ (e9t 5 (0) ++ (e9t 6 (0) ++ (e9t 7 (0) ++ (e9f 8 (0) ++ ([])))))) (by letI := Tab.empty; exact (allApp (e9t_ok rfl h0) (allApp (e9t_ok rfl h1) (allApp (e9t_ok rfl h2) (allApp (e9t_ok rfl h3) (allApp (e9f_ok rfl h4) ibNil))))))).tab
theorem L_law_71_run : okTrue (@call (T_L_law_71 b h0 h1 h2 h3 h4) Tryz.prog ((inHand C_Read6_0).or ((inHand C_Read1_4).or H_CF0a)) 5000 3 [.oi 0, .oi 1, .oi 2, .oi 3] H.empty) = true := (by as_aux_lemma => kernel_rfl)
end
theorem L_law_71 {m c f k : Nat} (b : Bd m c f k) (h0 : vA c 512 = (0)) (h1 : vA k 1024 = (0)) (h2 : vN c 1585 = (0)) (h3 : vA c 16 = (0)) (h4 : ¬ vN f 31 = (0)) (h5 : @InOk Tryz.prog C_Read1_4 (TB m c f k)) (h6 : @InOk Tryz.prog C_Read6_0 (TB m c f k)) (w : World) : Gives m c f k w := by
  letI : Tab := (T_L_law_71 b h0 h1 h2 h3 h4)
  obtain ⟨q_, hq_⟩ := CallOk.of_okTrue (P := Tryz.prog) mixed (HandOk.or (inHand_ok (InOk.tab (VRows.same _ _) h6) (by kernel_rfl)) (HandOk.or (inHand_ok (InOk.tab (VRows.same _ _) h5) (by kernel_rfl)) H_CF0a_ok)) (L_law_71_run b h0 h1 h2 h3 h4)
  exact gives hq_ w rfl rfl rfl rfl rfl rfl
section
variable {m c f k : Nat} (b : Bd m c f k) (h0 : vA c 512 = (0)) (h1 : vA k 1024 = (0)) (h2 : vN c 1585 = (0)) (h3 : vA c 16 = (0)) (h4 : vN f 31 = (0))
abbrev T_L_law_72 : Tab := (RC b (e9t 4 (0) ++ (e9t 5 (0) ++ (e9t 6 (0) ++ (e9t 7 (0) ++ (e9t 8 (0) ++ ([])))))) (by letI := Tab.empty; exact (allApp (e9t_ok rfl h0) (allApp (e9t_ok rfl h1) (allApp (e9t_ok rfl h2) (allApp (e9t_ok rfl h3) (allApp (e9t_ok rfl h4) ibNil))))))).tab
theorem L_law_72_run : okTrue (@call (T_L_law_72 b h0 h1 h2 h3 h4) Tryz.prog ((inHand C_Read6_0).or ((inHand C_Read1_4).or ((H_access_f_false).or H_CF0a))) 5000 3 [.oi 0, .oi 1, .oi 2, .oi 3] H.empty) = true := (by as_aux_lemma => kernel_rfl)
end
theorem L_law_72 {m c f k : Nat} (b : Bd m c f k) (h0 : vA c 512 = (0)) (h1 : vA k 1024 = (0)) (h2 : vN c 1585 = (0)) (h3 : vA c 16 = (0)) (h4 : vN f 31 = (0)) (h5 : acc f = false) (h6 : @InOk Tryz.prog C_Read1_4 (TB m c f k)) (h7 : @InOk Tryz.prog C_Read6_0 (TB m c f k)) (w : World) : Gives m c f k w := by
  letI : Tab := (T_L_law_72 b h0 h1 h2 h3 h4)
  obtain ⟨q_, hq_⟩ := CallOk.of_okTrue (P := Tryz.prog) mixed (HandOk.or (inHand_ok (InOk.tab (VRows.same _ _) h7) (by kernel_rfl)) (HandOk.or (inHand_ok (InOk.tab (VRows.same _ _) h6) (by kernel_rfl)) (HandOk.or (H_access_f_false_ok b h5 (VRows.same _ _)) H_CF0a_ok))) (L_law_72_run b h0 h1 h2 h3 h4)
  exact gives hq_ w rfl rfl rfl rfl rfl rfl
section
variable {m c f k : Nat} (b : Bd m c f k) (h0 : vA c 512 = (0)) (h1 : vA k 1024 = (0)) (h2 : vN c 1585 = (0)) (h3 : ¬ vA c 16 = (0)) (h4 : vA c 1024 = (0)) (h5 : ¬ vN f 31 = (0))
abbrev T_L_law_73 : Tab := (RC b (e9t 4 (0) ++ (e9t 5 (0) ++ (e9t 6 (0) ++ (e9f 7 (0) ++ (e9t 25 (0) ++ (e9f 8 (0) ++ ([]))))))) (by letI := Tab.empty; exact (allApp (e9t_ok rfl h0) (allApp (e9t_ok rfl h1) (allApp (e9t_ok rfl h2) (allApp (e9f_ok rfl h3) (allApp (e9t_ok rfl h4) (allApp (e9f_ok rfl h5) ibNil)))))))).tab
theorem L_law_73_run : okTrue (@call (T_L_law_73 b h0 h1 h2 h3 h4 h5) Tryz.prog ((inHand C_Read6_0).or ((inHand C_Read1_4).or H_CF0a)) 5000 3 [.oi 0, .oi 1, .oi 2, .oi 3] H.empty) = true := (by as_aux_lemma => kernel_rfl)
end
theorem L_law_73 {m c f k : Nat} (b : Bd m c f k) (h0 : vA c 512 = (0)) (h1 : vA k 1024 = (0)) (h2 : vN c 1585 = (0)) (h3 : ¬ vA c 16 = (0)) (h4 : vA c 1024 = (0)) (h5 : ¬ vN f 31 = (0)) (h6 : @InOk Tryz.prog C_Read1_4 (TB m c f k)) (h7 : @InOk Tryz.prog C_Read6_0 (TB m c f k)) (w : World) : Gives m c f k w := by
  letI : Tab := (T_L_law_73 b h0 h1 h2 h3 h4 h5)
  obtain ⟨q_, hq_⟩ := CallOk.of_okTrue (P := Tryz.prog) mixed (HandOk.or (inHand_ok (InOk.tab (VRows.same _ _) h7) (by kernel_rfl)) (HandOk.or (inHand_ok (InOk.tab (VRows.same _ _) h6) (by kernel_rfl)) H_CF0a_ok)) (L_law_73_run b h0 h1 h2 h3 h4 h5)
  exact gives hq_ w rfl rfl rfl rfl rfl rfl
section
variable {m c f k : Nat} (b : Bd m c f k) (h0 : vA c 512 = (0)) (h1 : vA k 1024 = (0)) (h2 : vN c 1585 = (0)) (h3 : ¬ vA c 16 = (0)) (h4 : vA c 1024 = (0)) (h5 : vN f 31 = (0))
abbrev T_L_law_74 : Tab := (RC b (e9t 4 (0) ++ (e9t 5 (0) ++ (e9t 6 (0) ++ (e9f 7 (0) ++ (e9t 25 (0) ++ (e9t 8 (0) ++ ([]))))))) (by letI := Tab.empty; exact (allApp (e9t_ok rfl h0) (allApp (e9t_ok rfl h1) (allApp (e9t_ok rfl h2) (allApp (e9f_ok rfl h3) (allApp (e9t_ok rfl h4) (allApp (e9t_ok rfl h5) ibNil)))))))).tab
theorem L_law_74_run : okTrue (@call (T_L_law_74 b h0 h1 h2 h3 h4 h5) Tryz.prog ((inHand C_Read6_0).or ((inHand C_Read1_4).or ((H_access_f_false).or H_CF0a))) 5000 3 [.oi 0, .oi 1, .oi 2, .oi 3] H.empty) = true := (by as_aux_lemma => kernel_rfl)
end
theorem L_law_74 {m c f k : Nat} (b : Bd m c f k) (h0 : vA c 512 = (0)) (h1 : vA k 1024 = (0)) (h2 : vN c 1585 = (0)) (h3 : ¬ vA c 16 = (0)) (h4 : vA c 1024 = (0)) (h5 : vN f 31 = (0)) (h6 : acc f = false) (h7 : @InOk Tryz.prog C_Read1_4 (TB m c f k)) (h8 : @InOk Tryz.prog C_Read6_0 (TB m c f k)) (w : World) : Gives m c f k w := by
  letI : Tab := (T_L_law_74 b h0 h1 h2 h3 h4 h5)
  obtain ⟨q_, hq_⟩ := CallOk.of_okTrue (P := Tryz.prog) mixed (HandOk.or (inHand_ok (InOk.tab (VRows.same _ _) h8) (by kernel_rfl)) (HandOk.or (inHand_ok (InOk.tab (VRows.same _ _) h7) (by kernel_rfl)) (HandOk.or (H_access_f_false_ok b h6 (VRows.same _ _)) H_CF0a_ok))) (L_law_74_run b h0 h1 h2 h3 h4 h5)
  exact gives hq_ w rfl rfl rfl rfl rfl rfl
end Go.Proofs.YtlfinnicdpiaaaaGreatDoor.cf
