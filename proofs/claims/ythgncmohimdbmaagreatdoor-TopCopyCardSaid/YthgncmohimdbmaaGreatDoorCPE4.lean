/-
  What the law TopCopy gives: its runs.
-/
import Derived.Test.YthgncmohimdbmaaGreatDoorCYNN
import Derived.Test.YthgncmohimdbmaaGreatDoorCPE3
import Derived.Test.YthgncmohimdbmaaGreatDoorCYT0
set_option linter.unusedSectionVars false
set_option linter.unusedVariables false
set_option maxRecDepth 1000000
set_option maxHeartbeats 0
namespace Go.Proofs.YthgncmohimdbmaaGreatDoor.cy
open Go.X Go.RowKit
noncomputable def J13712 : In := ⟨68, [(pN 14129)], 14130, [q62, q63, q64, q65], (.tup []), 16259, [q62, q22, q65, q23, q24, q56, q57, q58, q59, q25, q26]⟩
theorem J13712_run {a0 a1 a2 f t n : Int} {Y : Nat → Int} (hf : -1 ≤ f ∧ f ≤ 10) (ht : -1 ≤ t ∧ t ≤ 10) (hn : -1 ≤ n ∧ n ≤ 10) : @inRun Tryz.prog (TB (a0 := a0) (a1 := a1) (a2 := a2) (f := f) (t := t) (n := n) (Y := Y) hf ht hn) ((inHand J14726).or ((inHand J14744).or ((inHand J15393).or ((inHand J15394).or ((inHand J20530).or ((inHand J20575).or ((inHand J20597).or K_top0))))))) 5000 J13712 = true := (by as_aux_lemma => kernel_rfl)
theorem J13712_ok {a0 a1 a2 f t n : Int} {Y : Nat → Int} (hf : -1 ≤ f ∧ f ≤ 10) (ht : -1 ≤ t ∧ t ≤ 10) (hn : -1 ≤ n ∧ n ≤ 10) : @InOk Tryz.prog J13712 (TB (a0 := a0) (a1 := a1) (a2 := a2) (f := f) (t := t) (n := n) (Y := Y) hf ht hn) :=
  letI := (TB (a0 := a0) (a1 := a1) (a2 := a2) (f := f) (t := t) (n := n) (Y := Y) hf ht hn)
  InOk.of_run (K := ((inHand J14726).or ((inHand J14744).or ((inHand J15393).or ((inHand J15394).or ((inHand J20530).or ((inHand J20575).or ((inHand J20597).or K_top0)))))))) (n := 5000) mixed (HandOk.or (inHand_ok (J14726_ok (a0 := a0) (a1 := a1) (a2 := a2) (f := f) (t := t) (n := n) (Y := Y) hf ht hn) (by kernel_rfl)) (HandOk.or (inHand_ok (J14744_ok (a0 := a0) (a1 := a1) (a2 := a2) (f := f) (t := t) (n := n) (Y := Y) hf ht hn) (by kernel_rfl)) (HandOk.or (inHand_ok (J15393_ok (a0 := a0) (a1 := a1) (a2 := a2) (f := f) (t := t) (n := n) (Y := Y) hf ht hn) (by kernel_rfl)) (HandOk.or (inHand_ok (J15394_ok (a0 := a0) (a1 := a1) (a2 := a2) (f := f) (t := t) (n := n) (Y := Y) hf ht hn) (by kernel_rfl)) (HandOk.or (inHand_ok (J20530_ok (a0 := a0) (a1 := a1) (a2 := a2) (f := f) (t := t) (n := n) (Y := Y) hf ht hn) (by kernel_rfl)) (HandOk.or (inHand_ok (J20575_ok (a0 := a0) (a1 := a1) (a2 := a2) (f := f) (t := t) (n := n) (Y := Y) hf ht hn) (by kernel_rfl)) (HandOk.or (inHand_ok (J20597_ok (a0 := a0) (a1 := a1) (a2 := a2) (f := f) (t := t) (n := n) (Y := Y) hf ht hn) (by kernel_rfl)) (@K_top0_ok (TB (a0 := a0) (a1 := a1) (a2 := a2) (f := f) (t := t) (n := n) (Y := Y) hf ht hn))))))))) (by kernel_rfl) (J13712_run (a0 := a0) (a1 := a1) (a2 := a2) (f := f) (t := t) (n := n) (Y := Y) hf ht hn)
end Go.Proofs.YthgncmohimdbmaaGreatDoor.cy
