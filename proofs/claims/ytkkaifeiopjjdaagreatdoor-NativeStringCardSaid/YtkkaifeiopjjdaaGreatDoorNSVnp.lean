/-
  The law NativeString: the law's runs (np).
-/
import Derived.Test.YtkkaifeiopjjdaaGreatDoorNSU2
set_option linter.unusedVariables false
set_option linter.unusedSimpArgs false
set_option linter.unusedSectionVars false
set_option maxRecDepth 1000000
set_option maxHeartbeats 0
namespace Go.Proofs.YtkkaifeiopjjdaaGreatDoor.ns
open Go.X Go.RowKit Go.Proofs
noncomputable def Knp0 : Hand := Hand.or (inHand (tzI 0 .nils [])) (Hand.or (inHand (cuI 1)) (Hand.or (inHand (txI 1)) (Hand.or (inHand (txI 2)) (Hand.or (inHand (chZ 13377 1 0 10)) (Hand.or (inHand (chZ 13423 1 0 10)) (Hand.or (inHand (upIn (chU 13433 1 1) (Nat.add 13433 11))) (Hand.or (inHand (chZ 13523 2 0 10)) (Hand.or (inHand (chU 13533 2 1)) (Hand.or (inHand (chZ 13574 2 0 10)) (Hand.or (inHand (chU 13697 2 1)) (Hand.or (inHand (chU 13839 2 2)) (Hand.or (inHand (enZ 13574 13584)) (Hand.or (inHand (enZ 13574 13624)) (Hand.or (inHand (encI 13697 13707 1)) (Hand.or (inHand (encI 13697 13747 1)) (Hand.or (cmpH 12 ⟨true, 5, 3⟩ ⟨true, 5, 3⟩ true) (KK)))))))))))))))))
theorem knp0_ok {p : Pm} (h : Ar p) (c : Ct p) {lo hi : Bool} (L : Lz p true false lo hi) : @HandOk (RN p true false lo hi h L).T Tryz.prog Knp0 := by
  letI : Tab := (RN p true false lo hi h L).T
  have ha : oN p 0 = 0 := L.a1; have hb : 0 < oN p 1 := L.b0; have hc : 0 < oN p 2 := Nat.lt_of_lt_of_le L.b0 (Nat.le_add_left _ _)
  exact HandOk.or (inHand_ok (InOk.tab (sTN h L) (z0n_ok h ha)) (by kernel_rfl)) (HandOk.or (inHand_ok (InOk.tab (sTN h L) (cu1_ok c)) (by kernel_rfl)) (HandOk.or (inHand_ok (InOk.tab (sTN h L) (t1_ok h)) (by kernel_rfl)) (HandOk.or (inHand_ok (InOk.tab (sTN h L) (t2_ok h)) (by kernel_rfl)) (HandOk.or (inHand_ok (InOk.tab (sTN h L) (chZ_ok (m := 10) (by decide) (y13377_ok h ha))) (by kernel_rfl)) (HandOk.or (inHand_ok (InOk.tab (sTN h L) (chZ_ok (m := 10) (by decide) (y13423_ok h ha))) (by kernel_rfl)) (HandOk.or (inHand_ok (InOk.tab (sTN h L) (@upOk (TL p) Tryz.prog (chU 13433 1 1) (Nat.add 13433 11) (Nat.le_of_ble_eq_true rfl) (c13433_ok h hb))) (by kernel_rfl)) (HandOk.or (inHand_ok (InOk.tab (sTN h L) (chZ_ok (m := 10) (by decide) (y13523_ok h ha))) (by kernel_rfl)) (HandOk.or (inHand_ok (InOk.tab (sTN h L) (c13533_ok h hb)) (by kernel_rfl)) (HandOk.or (inHand_ok (InOk.tab (sTN h L) (chZ_ok (m := 10) (by decide) (y13574_ok h ha))) (by kernel_rfl)) (HandOk.or (inHand_ok (InOk.tab (sTN h L) (c13697_ok h hb)) (by kernel_rfl)) (HandOk.or (inHand_ok (InOk.tab (sTN h L) (c13839_ok h hc)) (by kernel_rfl)) (HandOk.or (inHand_ok (InOk.tab (sTN h L) (enZ_ok n13584_ok)) (by kernel_rfl)) (HandOk.or (inHand_ok (InOk.tab (sTN h L) (enZ_ok n13624_ok)) (by kernel_rfl)) (HandOk.or (inHand_ok (InOk.tab (sTN h L) (e13707_ok h hb)) (by kernel_rfl)) (HandOk.or (inHand_ok (InOk.tab (sTN h L) (e13747_ok h hb)) (by kernel_rfl)) (HandOk.or (cmpH_ok (s1 := ⟨true, 5, 3⟩) (s2 := ⟨true, 5, 3⟩) ⟨rfl, rfl⟩ ⟨rfl, rfl⟩ (cmp12 (e1 := p.C) (e2 := p.C) (n1 := p.lc) (n2 := p.lc) (by have := h.hN 2; have : p.lc ≤ 120 := this; omega) ⟨fun _ => ⟨rfl, fun _ _ => rfl⟩, fun _ => rfl⟩)) (nq.K_top0_ok)))))))))))))))))
theorem rnp010 {p : Pm} (h : Ar p) (c : Ct p) (L : Lz p true false true false) : ∃ q, @CallOk (RN p true false true false h L).T Tryz.prog 3 [.nils, foF 1, .oi 2] H.empty (.bool true, q) := @CallOk.of_okTrue (RN p true false true false h L).T Tryz.prog Knp0 mixed (knp0_ok h c L) 5000 _ _ (by as_aux_lemma => kernel_rfl)
theorem rnp001 {p : Pm} (h : Ar p) (c : Ct p) (L : Lz p true false false true) : ∃ q, @CallOk (RN p true false false true h L).T Tryz.prog 3 [.nils, foF 1, .oi 2] H.empty (.bool true, q) := @CallOk.of_okTrue (RN p true false false true h L).T Tryz.prog Knp0 mixed (knp0_ok h c L) 5000 _ _ (by as_aux_lemma => kernel_rfl)
end Go.Proofs.YtkkaifeiopjjdaaGreatDoor.ns
