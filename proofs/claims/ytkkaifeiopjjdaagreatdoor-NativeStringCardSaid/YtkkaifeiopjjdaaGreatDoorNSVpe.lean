/-
  The law NativeString: the law's runs (pe).
-/
import Derived.Test.YtkkaifeiopjjdaaGreatDoorNSU
set_option linter.unusedVariables false
set_option linter.unusedSimpArgs false
set_option linter.unusedSectionVars false
set_option maxRecDepth 1000000
set_option maxHeartbeats 0
namespace Go.Proofs.YtkkaifeiopjjdaaGreatDoor.ns
open Go.X Go.RowKit Go.Proofs
noncomputable def Kpe0 : Hand := Hand.or (inHand (cuI 0)) (Hand.or (inHand (txI 0)) (Hand.or (inHand (tzI 1 .es [])) (Hand.or (inHand (txI 2)) (Hand.or (inHand (chU 13377 1 0)) (Hand.or (inHand (chU 13423 1 0)) (Hand.or (inHand (chZ 13433 1 1 10)) (Hand.or (inHand (chU 13523 2 0)) (Hand.or (inHand (chZ 13533 2 1 10)) (Hand.or (inHand (chU 13574 2 0)) (Hand.or (inHand (chZ 13697 2 1 10)) (Hand.or (inHand (chU 13840 2 2)) (Hand.or (inHand (encI 13574 13584 0)) (Hand.or (inHand (encI 13574 13624 0)) (Hand.or (inHand (enZ 13697 13707)) (Hand.or (inHand (enZ 13697 13747)) (Hand.or (cmpH 12 ⟨true, 5, 3⟩ ⟨true, 5, 3⟩ true) (KK)))))))))))))))))
theorem kpe0_ok {p : Pm} (h : Ar p) (c : Ct p) {lo hi : Bool} (L : Lz p false true lo hi) : @HandOk (RN p false true lo hi h L).T Tryz.prog Kpe0 := by
  letI : Tab := (RN p false true lo hi h L).T
  have ha : 0 < oN p 0 := L.a0; have hb : oN p 1 = 0 := L.b1; have hc : 0 < oN p 2 := Nat.lt_of_lt_of_le L.a0 (Nat.le_add_right _ _)
  exact HandOk.or (inHand_ok (InOk.tab (sTN h L) (cu0_ok c)) (by kernel_rfl)) (HandOk.or (inHand_ok (InOk.tab (sTN h L) (t0_ok h)) (by kernel_rfl)) (HandOk.or (inHand_ok (InOk.tab (sTN h L) (z1e_ok h hb)) (by kernel_rfl)) (HandOk.or (inHand_ok (InOk.tab (sTN h L) (t2_ok h)) (by kernel_rfl)) (HandOk.or (inHand_ok (InOk.tab (sTN h L) (c13377_ok h ha)) (by kernel_rfl)) (HandOk.or (inHand_ok (InOk.tab (sTN h L) (c13423_ok h ha)) (by kernel_rfl)) (HandOk.or (inHand_ok (InOk.tab (sTN h L) (chZ_ok (m := 10) (by decide) (y13433_ok h hb))) (by kernel_rfl)) (HandOk.or (inHand_ok (InOk.tab (sTN h L) (c13523_ok h ha)) (by kernel_rfl)) (HandOk.or (inHand_ok (InOk.tab (sTN h L) (chZ_ok (m := 10) (by decide) (y13533_ok h hb))) (by kernel_rfl)) (HandOk.or (inHand_ok (InOk.tab (sTN h L) (c13574_ok h ha)) (by kernel_rfl)) (HandOk.or (inHand_ok (InOk.tab (sTN h L) (chZ_ok (m := 10) (by decide) (y13697_ok h hb))) (by kernel_rfl)) (HandOk.or (inHand_ok (InOk.tab (sTN h L) (c13840_ok h hc)) (by kernel_rfl)) (HandOk.or (inHand_ok (InOk.tab (sTN h L) (e13584_ok h ha)) (by kernel_rfl)) (HandOk.or (inHand_ok (InOk.tab (sTN h L) (e13624_ok h ha)) (by kernel_rfl)) (HandOk.or (inHand_ok (InOk.tab (sTN h L) (enZ_ok n13707_ok)) (by kernel_rfl)) (HandOk.or (inHand_ok (InOk.tab (sTN h L) (enZ_ok n13747_ok)) (by kernel_rfl)) (HandOk.or (cmpH_ok (s1 := ⟨true, 5, 3⟩) (s2 := ⟨true, 5, 3⟩) ⟨rfl, rfl⟩ ⟨rfl, rfl⟩ (cmp12 (e1 := p.C) (e2 := p.C) (n1 := p.lc) (n2 := p.lc) (by have := h.hN 2; have : p.lc ≤ 120 := this; omega) ⟨fun _ => ⟨rfl, fun _ _ => rfl⟩, fun _ => rfl⟩)) (nq.K_top0_ok)))))))))))))))))
theorem rpe000 {p : Pm} (h : Ar p) (c : Ct p) (L : Lz p false true false false) : ∃ q, @CallOk (RN p false true false false h L).T Tryz.prog 3 [foF 0, .es, .oi 2] H.empty (.bool true, q) := @CallOk.of_okTrue (RN p false true false false h L).T Tryz.prog Kpe0 mixed (kpe0_ok h c L) 5000 _ _ (by as_aux_lemma => kernel_rfl)
theorem rpe010 {p : Pm} (h : Ar p) (c : Ct p) (L : Lz p false true true false) : ∃ q, @CallOk (RN p false true true false h L).T Tryz.prog 3 [foF 0, .es, .oi 2] H.empty (.bool true, q) := @CallOk.of_okTrue (RN p false true true false h L).T Tryz.prog Kpe0 mixed (kpe0_ok h c L) 5000 _ _ (by as_aux_lemma => kernel_rfl)
theorem rpe001 {p : Pm} (h : Ar p) (c : Ct p) (L : Lz p false true false true) : ∃ q, @CallOk (RN p false true false true h L).T Tryz.prog 3 [foF 0, .es, .oi 2] H.empty (.bool true, q) := @CallOk.of_okTrue (RN p false true false true h L).T Tryz.prog Kpe0 mixed (kpe0_ok h c L) 5000 _ _ (by as_aux_lemma => kernel_rfl)
end Go.Proofs.YtkkaifeiopjjdaaGreatDoor.ns
