/-
  The law TopSpeaks, number by number.
-/
import Derived.Test.YtbgkinjicnnkiaaGreatDoorSNN
import Derived.Test.YtbgkinjicnnkiaaGreatDoorSCL
set_option linter.unusedSectionVars false
set_option linter.unusedVariables false
set_option maxRecDepth 1000000
set_option maxHeartbeats 0
namespace Go.Proofs.YtbgkinjicnnkiaaGreatDoor.sc
open Go.X Go.RowKit Go.Proofs.YtbgkinjicnnkiaaGreatDoor.sq Go.Proofs.YtbgkinjicnnkiaaGreatDoor
theorem run1 : runTrue ((RLk (x := 1) (q := 27) (s := 0) (d := 0) (o := 0) 1 rfl (by decide) (by decide)).tab) Tryz.prog ((inHand (CRo v1 b1)).or K_top0) 5000 Tryz.f5 (restn 4 fullL) (frOf fsA) (hOf 6868 []) = true := (by as_aux_lemma => kernel_rfl)
theorem back1 : Back 1 := by
  intro q g1 g2 w0 a w hq s
  obtain rfl : q = 27 := by omega
  letI : Tab := ((RLk (x := 1) (q := 27) (s := 0) (d := 0) (o := 0) 1 rfl (by decide) (by decide)).tab)
  exact runTrue_sound (T := ((RLk (x := 1) (q := 27) (s := 0) (d := 0) (o := 0) 1 rfl (by decide) (by decide)).tab)) sp.mixed (HandOk.or (inHand_ok (InOk.tab (VRows.same _ _) cr1) (by kernel_rfl)) K_top0_ok) run1 (St.same (VRows.same _ _) s)
theorem run5 : runTrue ((RLk (x := 5) (q := 71) (s := 0) (d := 0) (o := 0) 5 rfl (by decide) (by decide)).tab) Tryz.prog ((inHand (CRo v5 b5)).or K_top0) 5000 Tryz.f5 (restn 4 fullL) (frOf fsA) (hOf 6868 []) = true := (by as_aux_lemma => kernel_rfl)
theorem back5 : Back 5 := by
  intro q g1 g2 w0 a w hq s
  obtain rfl : q = 71 := by omega
  letI : Tab := ((RLk (x := 5) (q := 71) (s := 0) (d := 0) (o := 0) 5 rfl (by decide) (by decide)).tab)
  exact runTrue_sound (T := ((RLk (x := 5) (q := 71) (s := 0) (d := 0) (o := 0) 5 rfl (by decide) (by decide)).tab)) sp.mixed (HandOk.or (inHand_ok (InOk.tab (VRows.same _ _) cr5) (by kernel_rfl)) K_top0_ok) run5 (St.same (VRows.same _ _) s)
theorem run9 : runTrue ((RLk (x := 9) (q := 115) (s := 0) (d := 0) (o := 0) 9 rfl (by decide) (by decide)).tab) Tryz.prog ((inHand (CRo v9 b9)).or K_top0) 5000 Tryz.f5 (restn 4 fullL) (frOf fsA) (hOf 6868 []) = true := (by as_aux_lemma => kernel_rfl)
theorem back9 : Back 9 := by
  intro q g1 g2 w0 a w hq s
  obtain rfl : q = 115 := by omega
  letI : Tab := ((RLk (x := 9) (q := 115) (s := 0) (d := 0) (o := 0) 9 rfl (by decide) (by decide)).tab)
  exact runTrue_sound (T := ((RLk (x := 9) (q := 115) (s := 0) (d := 0) (o := 0) 9 rfl (by decide) (by decide)).tab)) sp.mixed (HandOk.or (inHand_ok (InOk.tab (VRows.same _ _) cr9) (by kernel_rfl)) K_top0_ok) run9 (St.same (VRows.same _ _) s)
theorem run13 : runTrue ((RLk (x := 13) (q := 159) (s := 0) (d := 0) (o := 0) 13 rfl (by decide) (by decide)).tab) Tryz.prog ((inHand (CRo v13 b13)).or K_top0) 5000 Tryz.f5 (restn 4 fullL) (frOf fsA) (hOf 6868 []) = true := (by as_aux_lemma => kernel_rfl)
theorem back13 : Back 13 := by
  intro q g1 g2 w0 a w hq s
  obtain rfl : q = 159 := by omega
  letI : Tab := ((RLk (x := 13) (q := 159) (s := 0) (d := 0) (o := 0) 13 rfl (by decide) (by decide)).tab)
  exact runTrue_sound (T := ((RLk (x := 13) (q := 159) (s := 0) (d := 0) (o := 0) 13 rfl (by decide) (by decide)).tab)) sp.mixed (HandOk.or (inHand_ok (InOk.tab (VRows.same _ _) cr13) (by kernel_rfl)) K_top0_ok) run13 (St.same (VRows.same _ _) s)
theorem run17 : runTrue ((RLk (x := 17) (q := 203) (s := 0) (d := 0) (o := 0) 17 rfl (by decide) (by decide)).tab) Tryz.prog ((inHand (CRo v17 b17)).or K_top0) 5000 Tryz.f5 (restn 4 fullL) (frOf fsA) (hOf 6868 []) = true := (by as_aux_lemma => kernel_rfl)
theorem back17 : Back 17 := by
  intro q g1 g2 w0 a w hq s
  obtain rfl : q = 203 := by omega
  letI : Tab := ((RLk (x := 17) (q := 203) (s := 0) (d := 0) (o := 0) 17 rfl (by decide) (by decide)).tab)
  exact runTrue_sound (T := ((RLk (x := 17) (q := 203) (s := 0) (d := 0) (o := 0) 17 rfl (by decide) (by decide)).tab)) sp.mixed (HandOk.or (inHand_ok (InOk.tab (VRows.same _ _) cr17) (by kernel_rfl)) K_top0_ok) run17 (St.same (VRows.same _ _) s)
theorem run21 : runTrue ((RLk (x := 21) (q := 247) (s := 0) (d := 0) (o := 0) 21 rfl (by decide) (by decide)).tab) Tryz.prog ((inHand (CRo v21 b21)).or K_top0) 5000 Tryz.f5 (restn 4 fullL) (frOf fsA) (hOf 6868 []) = true := (by as_aux_lemma => kernel_rfl)
theorem back21 : Back 21 := by
  intro q g1 g2 w0 a w hq s
  obtain rfl : q = 247 := by omega
  letI : Tab := ((RLk (x := 21) (q := 247) (s := 0) (d := 0) (o := 0) 21 rfl (by decide) (by decide)).tab)
  exact runTrue_sound (T := ((RLk (x := 21) (q := 247) (s := 0) (d := 0) (o := 0) 21 rfl (by decide) (by decide)).tab)) sp.mixed (HandOk.or (inHand_ok (InOk.tab (VRows.same _ _) cr21) (by kernel_rfl)) K_top0_ok) run21 (St.same (VRows.same _ _) s)
theorem run25 : runTrue ((RLk (x := 25) (q := 291) (s := 0) (d := 0) (o := 0) 25 rfl (by decide) (by decide)).tab) Tryz.prog ((inHand (CRo v25 b25)).or K_top0) 5000 Tryz.f5 (restn 4 fullL) (frOf fsA) (hOf 6868 []) = true := (by as_aux_lemma => kernel_rfl)
theorem back25 : Back 25 := by
  intro q g1 g2 w0 a w hq s
  obtain rfl : q = 291 := by omega
  letI : Tab := ((RLk (x := 25) (q := 291) (s := 0) (d := 0) (o := 0) 25 rfl (by decide) (by decide)).tab)
  exact runTrue_sound (T := ((RLk (x := 25) (q := 291) (s := 0) (d := 0) (o := 0) 25 rfl (by decide) (by decide)).tab)) sp.mixed (HandOk.or (inHand_ok (InOk.tab (VRows.same _ _) cr25) (by kernel_rfl)) K_top0_ok) run25 (St.same (VRows.same _ _) s)
theorem run29 : runTrue ((RLk (x := 29) (q := 335) (s := 0) (d := 0) (o := 0) 29 rfl (by decide) (by decide)).tab) Tryz.prog ((inHand (CRo v29 b29)).or K_top0) 5000 Tryz.f5 (restn 4 fullL) (frOf fsA) (hOf 6868 []) = true := (by as_aux_lemma => kernel_rfl)
theorem back29 : Back 29 := by
  intro q g1 g2 w0 a w hq s
  obtain rfl : q = 335 := by omega
  letI : Tab := ((RLk (x := 29) (q := 335) (s := 0) (d := 0) (o := 0) 29 rfl (by decide) (by decide)).tab)
  exact runTrue_sound (T := ((RLk (x := 29) (q := 335) (s := 0) (d := 0) (o := 0) 29 rfl (by decide) (by decide)).tab)) sp.mixed (HandOk.or (inHand_ok (InOk.tab (VRows.same _ _) cr29) (by kernel_rfl)) K_top0_ok) run29 (St.same (VRows.same _ _) s)
theorem run33 : runTrue ((RLk (x := 33) (q := 379) (s := 0) (d := 0) (o := 0) 33 rfl (by decide) (by decide)).tab) Tryz.prog ((inHand (CRo v33 b33)).or K_top0) 5000 Tryz.f5 (restn 4 fullL) (frOf fsA) (hOf 6868 []) = true := (by as_aux_lemma => kernel_rfl)
theorem back33 : Back 33 := by
  intro q g1 g2 w0 a w hq s
  obtain rfl : q = 379 := by omega
  letI : Tab := ((RLk (x := 33) (q := 379) (s := 0) (d := 0) (o := 0) 33 rfl (by decide) (by decide)).tab)
  exact runTrue_sound (T := ((RLk (x := 33) (q := 379) (s := 0) (d := 0) (o := 0) 33 rfl (by decide) (by decide)).tab)) sp.mixed (HandOk.or (inHand_ok (InOk.tab (VRows.same _ _) cr33) (by kernel_rfl)) K_top0_ok) run33 (St.same (VRows.same _ _) s)
theorem run37 : runTrue ((RLk (x := 37) (q := 423) (s := 0) (d := 0) (o := 0) 37 rfl (by decide) (by decide)).tab) Tryz.prog ((inHand (CRo v37 b37)).or K_top0) 5000 Tryz.f5 (restn 4 fullL) (frOf fsA) (hOf 6868 []) = true := (by as_aux_lemma => kernel_rfl)
theorem back37 : Back 37 := by
  intro q g1 g2 w0 a w hq s
  obtain rfl : q = 423 := by omega
  letI : Tab := ((RLk (x := 37) (q := 423) (s := 0) (d := 0) (o := 0) 37 rfl (by decide) (by decide)).tab)
  exact runTrue_sound (T := ((RLk (x := 37) (q := 423) (s := 0) (d := 0) (o := 0) 37 rfl (by decide) (by decide)).tab)) sp.mixed (HandOk.or (inHand_ok (InOk.tab (VRows.same _ _) cr37) (by kernel_rfl)) K_top0_ok) run37 (St.same (VRows.same _ _) s)
end Go.Proofs.YtbgkinjicnnkiaaGreatDoor.sc
