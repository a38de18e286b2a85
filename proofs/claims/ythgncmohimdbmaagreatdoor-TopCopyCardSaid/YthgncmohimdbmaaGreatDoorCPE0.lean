/-
  What the law TopCopy gives: its runs.
-/
import Derived.Test.YthgncmohimdbmaaGreatDoorCYNN
import Derived.Test.YthgncmohimdbmaaGreatDoorCPA
import Derived.Test.YthgncmohimdbmaaGreatDoorCYT0
set_option linter.unusedSectionVars false
set_option linter.unusedVariables false
set_option maxRecDepth 1000000
set_option maxHeartbeats 0
namespace Go.Proofs.YthgncmohimdbmaaGreatDoor.cy
open Go.X Go.RowKit
noncomputable def J20597 : In := ⟨52, [(pN 13824)], 24010, [q33, (13823, (.map [(tx0, (iN 124), 0)] 1)), q34, q22, q24, q25, q26, q35, q36, (19207, (.cells 1 true [] (T.ofList 0 .leaf [(pN 19205)]))), q37, q38], bT, 24046, [q19, (13823, (.map [(tx0, (iN 125), 0)] 1)), q21, q22, q24, q25, q26, q28, q29, (19207, (.cells 1 true [] (T.ofList 0 .leaf [(pN 19205)]))), q30, q31]⟩
theorem J20597_run {a0 a1 a2 f t n : Int} {Y : Nat → Int} (hf : -1 ≤ f ∧ f ≤ 10) (ht : -1 ≤ t ∧ t ≤ 10) (hn : -1 ≤ n ∧ n ≤ 10) : @inRun Tryz.prog (TB (a0 := a0) (a1 := a1) (a2 := a2) (f := f) (t := t) (n := n) (Y := Y) hf ht hn) K_top0 5000 J20597 = true := (by as_aux_lemma => kernel_rfl)
theorem J20597_ok {a0 a1 a2 f t n : Int} {Y : Nat → Int} (hf : -1 ≤ f ∧ f ≤ 10) (ht : -1 ≤ t ∧ t ≤ 10) (hn : -1 ≤ n ∧ n ≤ 10) : @InOk Tryz.prog J20597 (TB (a0 := a0) (a1 := a1) (a2 := a2) (f := f) (t := t) (n := n) (Y := Y) hf ht hn) :=
  letI := (TB (a0 := a0) (a1 := a1) (a2 := a2) (f := f) (t := t) (n := n) (Y := Y) hf ht hn)
  InOk.of_run (K := K_top0) (n := 5000) mixed (@K_top0_ok (TB (a0 := a0) (a1 := a1) (a2 := a2) (f := f) (t := t) (n := n) (Y := Y) hf ht hn)) (by kernel_rfl) (J20597_run (a0 := a0) (a1 := a1) (a2 := a2) (f := f) (t := t) (n := n) (Y := Y) hf ht hn)
noncomputable def J20575 : In := ⟨52, [(pN 13824)], 23976, [q39, (13823, (.map [(tx0, (iN 123), 0)] 1)), q40, q22, q24, q25, q26, q41, q42, (19207, (.cells 1 true [] (T.ofList 0 .leaf [(pN 19205)]))), q43, q38], bT, 24010, [q33, (13823, (.map [(tx0, (iN 124), 0)] 1)), q34, q22, q24, q25, q26, q35, q36, (19207, (.cells 1 true [] (T.ofList 0 .leaf [(pN 19205)]))), q37, q38]⟩
theorem J20575_run {a0 a1 a2 f t n : Int} {Y : Nat → Int} (hf : -1 ≤ f ∧ f ≤ 10) (ht : -1 ≤ t ∧ t ≤ 10) (hn : -1 ≤ n ∧ n ≤ 10) : @inRun Tryz.prog (TB (a0 := a0) (a1 := a1) (a2 := a2) (f := f) (t := t) (n := n) (Y := Y) hf ht hn) ((inHand J20597).or K_top0) 5000 J20575 = true := (by as_aux_lemma => kernel_rfl)
theorem J20575_ok {a0 a1 a2 f t n : Int} {Y : Nat → Int} (hf : -1 ≤ f ∧ f ≤ 10) (ht : -1 ≤ t ∧ t ≤ 10) (hn : -1 ≤ n ∧ n ≤ 10) : @InOk Tryz.prog J20575 (TB (a0 := a0) (a1 := a1) (a2 := a2) (f := f) (t := t) (n := n) (Y := Y) hf ht hn) :=
  letI := (TB (a0 := a0) (a1 := a1) (a2 := a2) (f := f) (t := t) (n := n) (Y := Y) hf ht hn)
  InOk.of_run (K := ((inHand J20597).or K_top0)) (n := 5000) mixed (HandOk.or (inHand_ok (J20597_ok (a0 := a0) (a1 := a1) (a2 := a2) (f := f) (t := t) (n := n) (Y := Y) hf ht hn) (by kernel_rfl)) (@K_top0_ok (TB (a0 := a0) (a1 := a1) (a2 := a2) (f := f) (t := t) (n := n) (Y := Y) hf ht hn))) (by kernel_rfl) (J20575_run (a0 := a0) (a1 := a1) (a2 := a2) (f := f) (t := t) (n := n) (Y := Y) hf ht hn)
noncomputable def J20530 : In := ⟨52, [(pN 13824)], 23905, [q44, (13823, (.map [(tx0, (iN 121), 0)] 1)), q45, q22, q24, q25, q26, q46, q47, (19207, (.cells 1 true [] (T.ofList 0 .leaf [(pN 19205)]))), q48, q49], bT, 23939, [q50, (13823, (.map [(tx0, (iN 122), 0)] 1)), q51, q22, q24, q25, q26, q52, q53, (19207, (.cells 1 true [] (T.ofList 0 .leaf [(pN 19205)]))), q54, q49]⟩
theorem J20530_run {a0 a1 a2 f t n : Int} {Y : Nat → Int} (hf : -1 ≤ f ∧ f ≤ 10) (ht : -1 ≤ t ∧ t ≤ 10) (hn : -1 ≤ n ∧ n ≤ 10) : @inRun Tryz.prog (TB (a0 := a0) (a1 := a1) (a2 := a2) (f := f) (t := t) (n := n) (Y := Y) hf ht hn) ((inHand J20575).or ((inHand J20597).or K_top0)) 5000 J20530 = true := (by as_aux_lemma => kernel_rfl)
theorem J20530_ok {a0 a1 a2 f t n : Int} {Y : Nat → Int} (hf : -1 ≤ f ∧ f ≤ 10) (ht : -1 ≤ t ∧ t ≤ 10) (hn : -1 ≤ n ∧ n ≤ 10) : @InOk Tryz.prog J20530 (TB (a0 := a0) (a1 := a1) (a2 := a2) (f := f) (t := t) (n := n) (Y := Y) hf ht hn) :=
  letI := (TB (a0 := a0) (a1 := a1) (a2 := a2) (f := f) (t := t) (n := n) (Y := Y) hf ht hn)
  InOk.of_run (K := ((inHand J20575).or ((inHand J20597).or K_top0))) (n := 5000) mixed (HandOk.or (inHand_ok (J20575_ok (a0 := a0) (a1 := a1) (a2 := a2) (f := f) (t := t) (n := n) (Y := Y) hf ht hn) (by kernel_rfl)) (HandOk.or (inHand_ok (J20597_ok (a0 := a0) (a1 := a1) (a2 := a2) (f := f) (t := t) (n := n) (Y := Y) hf ht hn) (by kernel_rfl)) (@K_top0_ok (TB (a0 := a0) (a1 := a1) (a2 := a2) (f := f) (t := t) (n := n) (Y := Y) hf ht hn)))) (by kernel_rfl) (J20530_run (a0 := a0) (a1 := a1) (a2 := a2) (f := f) (t := t) (n := n) (Y := Y) hf ht hn)
noncomputable def J15394 : In := ⟨359, [(.so 14913 0 66 1)], 16271, [q24], (.tup [(.so 16878 0 41 8), bT]), 16879, [q24, q55]⟩
theorem J15394_run {a0 a1 a2 f t n : Int} {Y : Nat → Int} (hf : -1 ≤ f ∧ f ≤ 10) (ht : -1 ≤ t ∧ t ≤ 10) (hn : -1 ≤ n ∧ n ≤ 10) : @inRun Tryz.prog (TB (a0 := a0) (a1 := a1) (a2 := a2) (f := f) (t := t) (n := n) (Y := Y) hf ht hn) ((inHand J20530).or ((inHand J20575).or ((inHand J20597).or K_top0))) 5000 J15394 = true := (by as_aux_lemma => kernel_rfl)
theorem J15394_ok {a0 a1 a2 f t n : Int} {Y : Nat → Int} (hf : -1 ≤ f ∧ f ≤ 10) (ht : -1 ≤ t ∧ t ≤ 10) (hn : -1 ≤ n ∧ n ≤ 10) : @InOk Tryz.prog J15394 (TB (a0 := a0) (a1 := a1) (a2 := a2) (f := f) (t := t) (n := n) (Y := Y) hf ht hn) :=
  letI := (TB (a0 := a0) (a1 := a1) (a2 := a2) (f := f) (t := t) (n := n) (Y := Y) hf ht hn)
  InOk.of_run (K := ((inHand J20530).or ((inHand J20575).or ((inHand J20597).or K_top0)))) (n := 5000) mixed (HandOk.or (inHand_ok (J20530_ok (a0 := a0) (a1 := a1) (a2 := a2) (f := f) (t := t) (n := n) (Y := Y) hf ht hn) (by kernel_rfl)) (HandOk.or (inHand_ok (J20575_ok (a0 := a0) (a1 := a1) (a2 := a2) (f := f) (t := t) (n := n) (Y := Y) hf ht hn) (by kernel_rfl)) (HandOk.or (inHand_ok (J20597_ok (a0 := a0) (a1 := a1) (a2 := a2) (f := f) (t := t) (n := n) (Y := Y) hf ht hn) (by kernel_rfl)) (@K_top0_ok (TB (a0 := a0) (a1 := a1) (a2 := a2) (f := f) (t := t) (n := n) (Y := Y) hf ht hn))))) (by kernel_rfl) (J15394_run (a0 := a0) (a1 := a1) (a2 := a2) (f := f) (t := t) (n := n) (Y := Y) hf ht hn)
end Go.Proofs.YthgncmohimdbmaaGreatDoor.cy
