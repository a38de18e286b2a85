/-
  What the law TopCopy gives: its runs.
-/
import Derived.Test.YthgncmohimdbmaaGreatDoorCYNN
import Derived.Test.YthgncmohimdbmaaGreatDoorCPC
import Derived.Test.YthgncmohimdbmaaGreatDoorCPF1
set_option linter.unusedSectionVars false
set_option linter.unusedVariables false
set_option maxRecDepth 1000000
set_option maxHeartbeats 0
namespace Go.Proofs.YthgncmohimdbmaaGreatDoor.cy
open Go.X Go.RowKit
section
theorem J68185_run {a0 a1 a2 f t n : Int} {Y : Nat → Int} (hf : -1 ≤ f ∧ f ≤ 10) (ht : -1 ≤ t ∧ t ≤ 10) (hn : -1 ≤ n ∧ n ≤ 10) (c0 : 0 ≤ f) (c : t < 0) : @inRun Tryz.prog (T2 (a0 := a0) (a1 := a1) (a2 := a2) (f := f) (t := t) (n := n) (Y := Y) hf ht hn c0 c) KB 5000 J46833 = true := (by as_aux_lemma => kernel_rfl)
theorem J68185_ok {a0 a1 a2 f t n : Int} {Y : Nat → Int} (hf : -1 ≤ f ∧ f ≤ 10) (ht : -1 ≤ t ∧ t ≤ 10) (hn : -1 ≤ n ∧ n ≤ 10) (c0 : 0 ≤ f) (c : t < 0) (h0 : bx a0 = f + 1) (h1 : bx a1 = t + 1) (h2 : bx a2 = n + 1) : @InOk Tryz.prog J46833 (T2 (a0 := a0) (a1 := a1) (a2 := a2) (f := f) (t := t) (n := n) (Y := Y) hf ht hn c0 c) :=
  letI := (T2 (a0 := a0) (a1 := a1) (a2 := a2) (f := f) (t := t) (n := n) (Y := Y) hf ht hn c0 c)
  InOk.of_run (K := KB) (n := 5000) mixed (KB_ok (a0 := a0) (a1 := a1) (a2 := a2) (f := f) (t := t) (n := n) (Y := Y) hf ht hn (VRows.same _ _) h0 h1 h2) (by kernel_rfl) (J68185_run (a0 := a0) (a1 := a1) (a2 := a2) (f := f) (t := t) (n := n) (Y := Y) hf ht hn c0 c)
theorem J67728_run {a0 a1 a2 f t n : Int} {Y : Nat → Int} (hf : -1 ≤ f ∧ f ≤ 10) (ht : -1 ≤ t ∧ t ≤ 10) (hn : -1 ≤ n ∧ n ≤ 10) (c0 : 0 ≤ f) (c : t < 0) : @inRun Tryz.prog (T2 (a0 := a0) (a1 := a1) (a2 := a2) (f := f) (t := t) (n := n) (Y := Y) hf ht hn c0 c) ((inHand J46833).or KB) 5000 J46376 = true := (by as_aux_lemma => kernel_rfl)
theorem J67728_ok {a0 a1 a2 f t n : Int} {Y : Nat → Int} (hf : -1 ≤ f ∧ f ≤ 10) (ht : -1 ≤ t ∧ t ≤ 10) (hn : -1 ≤ n ∧ n ≤ 10) (c0 : 0 ≤ f) (c : t < 0) (h0 : bx a0 = f + 1) (h1 : bx a1 = t + 1) (h2 : bx a2 = n + 1) : @InOk Tryz.prog J46376 (T2 (a0 := a0) (a1 := a1) (a2 := a2) (f := f) (t := t) (n := n) (Y := Y) hf ht hn c0 c) :=
  letI := (T2 (a0 := a0) (a1 := a1) (a2 := a2) (f := f) (t := t) (n := n) (Y := Y) hf ht hn c0 c)
  InOk.of_run (K := ((inHand J46833).or KB)) (n := 5000) mixed (HandOk.or (inHand_ok (J68185_ok (a0 := a0) (a1 := a1) (a2 := a2) (f := f) (t := t) (n := n) (Y := Y) hf ht hn c0 c h0 h1 h2) (by kernel_rfl)) (KB_ok (a0 := a0) (a1 := a1) (a2 := a2) (f := f) (t := t) (n := n) (Y := Y) hf ht hn (VRows.same _ _) h0 h1 h2)) (by kernel_rfl) (J67728_run (a0 := a0) (a1 := a1) (a2 := a2) (f := f) (t := t) (n := n) (Y := Y) hf ht hn c0 c)
theorem run2 {a0 a1 a2 f t n : Int} {Y : Nat → Int} (hf : -1 ≤ f ∧ f ≤ 10) (ht : -1 ≤ t ∧ t ≤ 10) (hn : -1 ≤ n ∧ n ≤ 10) (c0 : 0 ≤ f) (c : t < 0) : okTrue (@call (T2 (a0 := a0) (a1 := a1) (a2 := a2) (f := f) (t := t) (n := n) (Y := Y) hf ht hn c0 c) Tryz.prog ((inHand J46376).or ((inHand J46833).or KB)) 5000 5 [.oi 0, .oi 1, .oi 2] H.empty) = true := (by as_aux_lemma => kernel_rfl)
theorem no2 {a0 a1 a2 f t n : Int} {Y : Nat → Int} (hf : -1 ≤ f ∧ f ≤ 10) (ht : -1 ≤ t ∧ t ≤ 10) (hn : -1 ≤ n ∧ n ≤ 10) (c0 : 0 ≤ f) (c : t < 0) (h0 : bx a0 = f + 1) (h1 : bx a1 = t + 1) (h2 : bx a2 = n + 1) (w : World) : Calls Tryz.prog 5 #[.int .i64 a0, .int .i64 a1, .int .i64 a2] w fun e w' => e = .returned (.bool true) ∧ Below w.heap.size w w' := by
  letI : Tab := (T2 (a0 := a0) (a1 := a1) (a2 := a2) (f := f) (t := t) (n := n) (Y := Y) hf ht hn c0 c)
  obtain ⟨q_, hq_⟩ := CallOk.of_okTrue (P := Tryz.prog) mixed (HandOk.or (inHand_ok (J67728_ok (a0 := a0) (a1 := a1) (a2 := a2) (f := f) (t := t) (n := n) (Y := Y) hf ht hn c0 c h0 h1 h2) (by kernel_rfl)) (HandOk.or (inHand_ok (J68185_ok (a0 := a0) (a1 := a1) (a2 := a2) (f := f) (t := t) (n := n) (Y := Y) hf ht hn c0 c h0 h1 h2) (by kernel_rfl)) (KB_ok (a0 := a0) (a1 := a1) (a2 := a2) (f := f) (t := t) (n := n) (Y := Y) hf ht hn (VRows.same _ _) h0 h1 h2))) (run2 (a0 := a0) (a1 := a1) (a2 := a2) (f := f) (t := t) (n := n) (Y := Y) hf ht hn c0 c)
  exact CallOk.yes hq_ (vrels_cons (by simp only [vrel]; rfl) (vrels_cons (by simp only [vrel]; rfl) (vrels_cons (by simp only [vrel]; rfl) (by simp [vrels])))) w ⟨fun g o a h => (by cases h), fun i m a h => (by cases h)⟩
end
end Go.Proofs.YthgncmohimdbmaaGreatDoor.cy
