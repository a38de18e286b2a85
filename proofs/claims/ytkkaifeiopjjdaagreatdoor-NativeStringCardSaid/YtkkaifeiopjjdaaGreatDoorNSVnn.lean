/-
  The law NativeString: the law's runs (nn).
-/
import Derived.Test.YtkkaifeiopjjdaaGreatDoorNSU
set_option linter.unusedVariables false
set_option linter.unusedSimpArgs false
set_option linter.unusedSectionVars false
set_option maxRecDepth 1000000
set_option maxHeartbeats 0
namespace Go.Proofs.YtkkaifeiopjjdaaGreatDoor.ns
open Go.X Go.RowKit Go.Proofs
noncomputable def Knn1 : Hand := Hand.or (inHand (tzI 0 .nils [])) (Hand.or (inHand (tzI 1 .nils [])) (Hand.or (inHand (tzI 2 (.sl 13445 0 0 0) [])) (Hand.or (inHand (chZ 13377 1 0 10)) (Hand.or (inHand (chZ 13423 1 0 10)) (Hand.or (inHand (chZ 13433 1 1 12)) (Hand.or (inHand (chZ 13523 2 0 10)) (Hand.or (inHand (chZ 13533 2 1 10)) (Hand.or (inHand (chZ 13574 2 0 10)) (Hand.or (inHand (chZ 13697 2 1 10)) (Hand.or (inHand (chZ 13798 2 2 10)) (Hand.or (inHand (enZ 13574 13584)) (Hand.or (inHand (enZ 13574 13624)) (Hand.or (inHand (enZ 13697 13707)) (KK))))))))))))))
theorem knn1_ok {p : Pm} (h : Ar p) (c : Ct p) {lo hi : Bool} (L : Lz p true true lo hi) : @HandOk (RN p true true lo hi h L).T Tryz.prog Knn1 := by
  letI : Tab := (RN p true true lo hi h L).T
  have ha : oN p 0 = 0 := L.a1; have hb : oN p 1 = 0 := L.b1; have hc : oN p 2 = 0 := (by have := L.a1; have := L.b1; show p.la + p.lb = 0; omega)
  exact HandOk.or (inHand_ok (InOk.tab (sTN h L) (z0n_ok h ha)) (by kernel_rfl)) (HandOk.or (inHand_ok (InOk.tab (sTN h L) (z1n_ok h hb)) (by kernel_rfl)) (HandOk.or (inHand_ok (InOk.tab (sTN h L) (z2_ok h hc)) (by kernel_rfl)) (HandOk.or (inHand_ok (InOk.tab (sTN h L) (chZ_ok (m := 10) (by decide) (y13377_ok h ha))) (by kernel_rfl)) (HandOk.or (inHand_ok (InOk.tab (sTN h L) (chZ_ok (m := 10) (by decide) (y13423_ok h ha))) (by kernel_rfl)) (HandOk.or (inHand_ok (InOk.tab (sTN h L) (chZ_ok (m := 12) (by decide) (y13433_ok h hb))) (by kernel_rfl)) (HandOk.or (inHand_ok (InOk.tab (sTN h L) (chZ_ok (m := 10) (by decide) (y13523_ok h ha))) (by kernel_rfl)) (HandOk.or (inHand_ok (InOk.tab (sTN h L) (chZ_ok (m := 10) (by decide) (y13533_ok h hb))) (by kernel_rfl)) (HandOk.or (inHand_ok (InOk.tab (sTN h L) (chZ_ok (m := 10) (by decide) (y13574_ok h ha))) (by kernel_rfl)) (HandOk.or (inHand_ok (InOk.tab (sTN h L) (chZ_ok (m := 10) (by decide) (y13697_ok h hb))) (by kernel_rfl)) (HandOk.or (inHand_ok (InOk.tab (sTN h L) (chZ_ok (m := 10) (by decide) (y13798_ok h hc))) (by kernel_rfl)) (HandOk.or (inHand_ok (InOk.tab (sTN h L) (enZ_ok n13584_ok)) (by kernel_rfl)) (HandOk.or (inHand_ok (InOk.tab (sTN h L) (enZ_ok n13624_ok)) (by kernel_rfl)) (HandOk.or (inHand_ok (InOk.tab (sTN h L) (enZ_ok n13707_ok)) (by kernel_rfl)) (nq.K_top0_ok))))))))))))))
theorem rnn110 {p : Pm} (h : Ar p) (c : Ct p) (L : Lz p true true true false) : ∃ q, @CallOk (RN p true true true false h L).T Tryz.prog 3 [.nils, .nils, .oi 2] H.empty (.bool true, q) := @CallOk.of_okTrue (RN p true true true false h L).T Tryz.prog Knn1 mixed (knn1_ok h c L) 5000 _ _ (by as_aux_lemma => kernel_rfl)
theorem rnn101 {p : Pm} (h : Ar p) (c : Ct p) (L : Lz p true true false true) : ∃ q, @CallOk (RN p true true false true h L).T Tryz.prog 3 [.nils, .nils, .oi 2] H.empty (.bool true, q) := @CallOk.of_okTrue (RN p true true false true h L).T Tryz.prog Knn1 mixed (knn1_ok h c L) 5000 _ _ (by as_aux_lemma => kernel_rfl)
end Go.Proofs.YtkkaifeiopjjdaaGreatDoor.ns
