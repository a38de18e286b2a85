/-
  What the law TopCopy gives: its runs.
-/
import Derived.Test.YthgncmohimdbmaaGreatDoorCYNN
import Derived.Test.YthgncmohimdbmaaGreatDoorCPC
set_option linter.unusedSectionVars false
set_option linter.unusedVariables false
set_option maxRecDepth 1000000
set_option maxHeartbeats 0
namespace Go.Proofs.YthgncmohimdbmaaGreatDoor.cy
open Go.X Go.RowKit
section
noncomputable def J46833 : In := ⟨156, [(pN 10480), (.so 24371 0 5 1)], 24374, [q0, q1, q2, q3, q4, q5], (.tup [z0, bF, (iN 18)]), 24399, [q0, q1, q2, q3, q4, q5]⟩
theorem J46833_run {a0 a1 a2 f t n : Int} {Y : Nat → Int} (hf : -1 ≤ f ∧ f ≤ 10) (ht : -1 ≤ t ∧ t ≤ 10) (hn : -1 ≤ n ∧ n ≤ 10) (c : f < 0) : @inRun Tryz.prog (T1 (a0 := a0) (a1 := a1) (a2 := a2) (f := f) (t := t) (n := n) (Y := Y) hf ht hn c) KB 5000 J46833 = true := (by as_aux_lemma => kernel_rfl)
theorem J46833_ok {a0 a1 a2 f t n : Int} {Y : Nat → Int} (hf : -1 ≤ f ∧ f ≤ 10) (ht : -1 ≤ t ∧ t ≤ 10) (hn : -1 ≤ n ∧ n ≤ 10) (c : f < 0) (h0 : bx a0 = f + 1) (h1 : bx a1 = t + 1) (h2 : bx a2 = n + 1) : @InOk Tryz.prog J46833 (T1 (a0 := a0) (a1 := a1) (a2 := a2) (f := f) (t := t) (n := n) (Y := Y) hf ht hn c) :=
  letI := (T1 (a0 := a0) (a1 := a1) (a2 := a2) (f := f) (t := t) (n := n) (Y := Y) hf ht hn c)
  InOk.of_run (K := KB) (n := 5000) mixed (KB_ok (a0 := a0) (a1 := a1) (a2 := a2) (f := f) (t := t) (n := n) (Y := Y) hf ht hn (VRows.same _ _) h0 h1 h2) (by kernel_rfl) (J46833_run (a0 := a0) (a1 := a1) (a2 := a2) (f := f) (t := t) (n := n) (Y := Y) hf ht hn c)
noncomputable def J46376 : In := ⟨52, [(pN 13824)], 24046, [(7219, (.map [(tx69, (pN 14128), 0)] 1)), q6, q7, q8, q9, q10, q11, q12, q13, q14, q15, q16, q17, q0, q1, q18, q19, q20, (13823, (.map [(tx0, (iN 125), 0)] 1)), q21, q22, q23, q24, q25, q26, q27, (19196, (.cells 2 false [] (T.ofList 0 .leaf [z2, .nils]))), q28, q29, (19207, (.cells 1 true [] (T.ofList 0 .leaf [(pN 19205)]))), q2, q3, q4, q30, q31], bF, 24512, [(7219, (.map [(tx69, (pN 14128), 0)] 1)), q6, q7, q8, q9, q10, q11, q12, q13, q14, q15, q16, q1, q18, q32, q22, q23, q24, q25, q26, q27, (19196, (.cells 2 false [] (T.ofList 0 .leaf [z2, .nils]))), (19207, (.cells 1 true [] (T.ofList 0 .leaf [(pN 19205)]))), q30, q31]⟩
theorem J46376_run {a0 a1 a2 f t n : Int} {Y : Nat → Int} (hf : -1 ≤ f ∧ f ≤ 10) (ht : -1 ≤ t ∧ t ≤ 10) (hn : -1 ≤ n ∧ n ≤ 10) (c : f < 0) : @inRun Tryz.prog (T1 (a0 := a0) (a1 := a1) (a2 := a2) (f := f) (t := t) (n := n) (Y := Y) hf ht hn c) ((inHand J46833).or KB) 5000 J46376 = true := (by as_aux_lemma => kernel_rfl)
theorem J46376_ok {a0 a1 a2 f t n : Int} {Y : Nat → Int} (hf : -1 ≤ f ∧ f ≤ 10) (ht : -1 ≤ t ∧ t ≤ 10) (hn : -1 ≤ n ∧ n ≤ 10) (c : f < 0) (h0 : bx a0 = f + 1) (h1 : bx a1 = t + 1) (h2 : bx a2 = n + 1) : @InOk Tryz.prog J46376 (T1 (a0 := a0) (a1 := a1) (a2 := a2) (f := f) (t := t) (n := n) (Y := Y) hf ht hn c) :=
  letI := (T1 (a0 := a0) (a1 := a1) (a2 := a2) (f := f) (t := t) (n := n) (Y := Y) hf ht hn c)
  InOk.of_run (K := ((inHand J46833).or KB)) (n := 5000) mixed (HandOk.or (inHand_ok (J46833_ok (a0 := a0) (a1 := a1) (a2 := a2) (f := f) (t := t) (n := n) (Y := Y) hf ht hn c h0 h1 h2) (by kernel_rfl)) (KB_ok (a0 := a0) (a1 := a1) (a2 := a2) (f := f) (t := t) (n := n) (Y := Y) hf ht hn (VRows.same _ _) h0 h1 h2)) (by kernel_rfl) (J46376_run (a0 := a0) (a1 := a1) (a2 := a2) (f := f) (t := t) (n := n) (Y := Y) hf ht hn c)
theorem run1 {a0 a1 a2 f t n : Int} {Y : Nat → Int} (hf : -1 ≤ f ∧ f ≤ 10) (ht : -1 ≤ t ∧ t ≤ 10) (hn : -1 ≤ n ∧ n ≤ 10) (c : f < 0) : okTrue (@call (T1 (a0 := a0) (a1 := a1) (a2 := a2) (f := f) (t := t) (n := n) (Y := Y) hf ht hn c) Tryz.prog ((inHand J46376).or ((inHand J46833).or KB)) 5000 5 [.oi 0, .oi 1, .oi 2] H.empty) = true := (by as_aux_lemma => kernel_rfl)
theorem no1 {a0 a1 a2 f t n : Int} {Y : Nat → Int} (hf : -1 ≤ f ∧ f ≤ 10) (ht : -1 ≤ t ∧ t ≤ 10) (hn : -1 ≤ n ∧ n ≤ 10) (c : f < 0) (h0 : bx a0 = f + 1) (h1 : bx a1 = t + 1) (h2 : bx a2 = n + 1) (w : World) : Calls Tryz.prog 5 #[.int .i64 a0, .int .i64 a1, .int .i64 a2] w fun e w' => e = .returned (.bool true) ∧ Below w.heap.size w w' := by
  letI : Tab := (T1 (a0 := a0) (a1 := a1) (a2 := a2) (f := f) (t := t) (n := n) (Y := Y) hf ht hn c)
  obtain ⟨q_, hq_⟩ := CallOk.of_okTrue (P := Tryz.prog) mixed (HandOk.or (inHand_ok (J46376_ok (a0 := a0) (a1 := a1) (a2 := a2) (f := f) (t := t) (n := n) (Y := Y) hf ht hn c h0 h1 h2) (by kernel_rfl)) (HandOk.or (inHand_ok (J46833_ok (a0 := a0) (a1 := a1) (a2 := a2) (f := f) (t := t) (n := n) (Y := Y) hf ht hn c h0 h1 h2) (by kernel_rfl)) (KB_ok (a0 := a0) (a1 := a1) (a2 := a2) (f := f) (t := t) (n := n) (Y := Y) hf ht hn (VRows.same _ _) h0 h1 h2))) (run1 (a0 := a0) (a1 := a1) (a2 := a2) (f := f) (t := t) (n := n) (Y := Y) hf ht hn c)
  exact CallOk.yes hq_ (vrels_cons (by simp only [vrel]; rfl) (vrels_cons (by simp only [vrel]; rfl) (vrels_cons (by simp only [vrel]; rfl) (by simp [vrels])))) w ⟨fun g o a h => (by cases h), fun i m a h => (by cases h)⟩
end
end Go.Proofs.YthgncmohimdbmaaGreatDoor.cy
