/-
  The law TopSpeaks, number by number.
-/
import Derived.Test.YtbgkinjicnnkiaaGreatDoorSNN
import Derived.Test.YtbgkinjicnnkiaaGreatDoorSCL
set_option linter.unusedSectionVars false
set_option linter.unusedVariables false
set_option maxRecDepth 1000000
set_option maxHeartbeats 0
namespace Go.Proofs.YtbgkinjicnnkiaaGreatDoor.sc
open Go.X Go.RowKit Go.Proofs.YtbgkinjicnnkiaaGreatDoor.sq Go.Proofs.YtbgkinjicnnkiaaGreatDoor
theorem run2 : runTrue ((RLk (x := 2) (q := 38) (s := 0) (d := 0) (o := 0) 2 rfl (by decide) (by decide)).tab) Tryz.prog ((inHand (CRo v2 b2)).or K_top0) 5000 Tryz.f5 (restn 4 fullL) (frOf fsA) (hOf 6868 []) = true := (by as_aux_lemma => kernel_rfl)
theorem back2 : Back 2 := by
  intro q g1 g2 w0 a w hq s
  obtain rfl : q = 38 := by omega
  letI : Tab := ((RLk (x := 2) (q := 38) (s := 0) (d := 0) (o := 0) 2 rfl (by decide) (by decide)).tab)
  exact runTrue_sound (T := ((RLk (x := 2) (q := 38) (s := 0) (d := 0) (o := 0) 2 rfl (by decide) (by decide)).tab)) sp.mixed (HandOk.or (inHand_ok (InOk.tab (VRows.same _ _) cr2) (by kernel_rfl)) K_top0_ok) run2 (St.same (VRows.same _ _) s)
theorem run6 : runTrue ((RLk (x := 6) (q := 82) (s := 0) (d := 0) (o := 0) 6 rfl (by decide) (by decide)).tab) Tryz.prog ((inHand (CRo v6 b6)).or K_top0) 5000 Tryz.f5 (restn 4 fullL) (frOf fsA) (hOf 6868 []) = true := (by as_aux_lemma => kernel_rfl)
theorem back6 : Back 6 := by
  intro q g1 g2 w0 a w hq s
  obtain rfl : q = 82 := by omega
  letI : Tab := ((RLk (x := 6) (q := 82) (s := 0) (d := 0) (o := 0) 6 rfl (by decide) (by decide)).tab)
  exact runTrue_sound (T := ((RLk (x := 6) (q := 82) (s := 0) (d := 0) (o := 0) 6 rfl (by decide) (by decide)).tab)) sp.mixed (HandOk.or (inHand_ok (InOk.tab (VRows.same _ _) cr6) (by kernel_rfl)) K_top0_ok) run6 (St.same (VRows.same _ _) s)
theorem run10 : runTrue ((RLk (x := 10) (q := 126) (s := 0) (d := 0) (o := 0) 10 rfl (by decide) (by decide)).tab) Tryz.prog ((inHand (CRo v10 b10)).or K_top0) 5000 Tryz.f5 (restn 4 fullL) (frOf fsA) (hOf 6868 []) = true := (by as_aux_lemma => kernel_rfl)
theorem back10 : Back 10 := by
  intro q g1 g2 w0 a w hq s
  obtain rfl : q = 126 := by omega
  letI : Tab := ((RLk (x := 10) (q := 126) (s := 0) (d := 0) (o := 0) 10 rfl (by decide) (by decide)).tab)
  exact runTrue_sound (T := ((RLk (x := 10) (q := 126) (s := 0) (d := 0) (o := 0) 10 rfl (by decide) (by decide)).tab)) sp.mixed (HandOk.or (inHand_ok (InOk.tab (VRows.same _ _) cr10) (by kernel_rfl)) K_top0_ok) run10 (St.same (VRows.same _ _) s)
theorem run14 : runTrue ((RLk (x := 14) (q := 170) (s := 0) (d := 0) (o := 0) 14 rfl (by decide) (by decide)).tab) Tryz.prog ((inHand (CRo v14 b14)).or K_top0) 5000 Tryz.f5 (restn 4 fullL) (frOf fsA) (hOf 6868 []) = true := (by as_aux_lemma => kernel_rfl)
theorem back14 : Back 14 := by
  intro q g1 g2 w0 a w hq s
  obtain rfl : q = 170 := by omega
  letI : Tab := ((RLk (x := 14) (q := 170) (s := 0) (d := 0) (o := 0) 14 rfl (by decide) (by decide)).tab)
  exact runTrue_sound (T := ((RLk (x := 14) (q := 170) (s := 0) (d := 0) (o := 0) 14 rfl (by decide) (by decide)).tab)) sp.mixed (HandOk.or (inHand_ok (InOk.tab (VRows.same _ _) cr14) (by kernel_rfl)) K_top0_ok) run14 (St.same (VRows.same _ _) s)
theorem run18 : runTrue ((RLk (x := 18) (q := 214) (s := 0) (d := 0) (o := 0) 18 rfl (by decide) (by decide)).tab) Tryz.prog ((inHand (CRo v18 b18)).or K_top0) 5000 Tryz.f5 (restn 4 fullL) (frOf fsA) (hOf 6868 []) = true := (by as_aux_lemma => kernel_rfl)
theorem back18 : Back 18 := by
  intro q g1 g2 w0 a w hq s
  obtain rfl : q = 214 := by omega
  letI : Tab := ((RLk (x := 18) (q := 214) (s := 0) (d := 0) (o := 0) 18 rfl (by decide) (by decide)).tab)
  exact runTrue_sound (T := ((RLk (x := 18) (q := 214) (s := 0) (d := 0) (o := 0) 18 rfl (by decide) (by decide)).tab)) sp.mixed (HandOk.or (inHand_ok (InOk.tab (VRows.same _ _) cr18) (by kernel_rfl)) K_top0_ok) run18 (St.same (VRows.same _ _) s)
theorem run22 : runTrue ((RLk (x := 22) (q := 258) (s := 0) (d := 0) (o := 0) 22 rfl (by decide) (by decide)).tab) Tryz.prog ((inHand (CRo v22 b22)).or K_top0) 5000 Tryz.f5 (restn 4 fullL) (frOf fsA) (hOf 6868 []) = true := (by as_aux_lemma => kernel_rfl)
theorem back22 : Back 22 := by
  intro q g1 g2 w0 a w hq s
  obtain rfl : q = 258 := by omega
  letI : Tab := ((RLk (x := 22) (q := 258) (s := 0) (d := 0) (o := 0) 22 rfl (by decide) (by decide)).tab)
  exact runTrue_sound (T := ((RLk (x := 22) (q := 258) (s := 0) (d := 0) (o := 0) 22 rfl (by decide) (by decide)).tab)) sp.mixed (HandOk.or (inHand_ok (InOk.tab (VRows.same _ _) cr22) (by kernel_rfl)) K_top0_ok) run22 (St.same (VRows.same _ _) s)
theorem run26 : runTrue ((RLk (x := 26) (q := 302) (s := 0) (d := 0) (o := 0) 26 rfl (by decide) (by decide)).tab) Tryz.prog ((inHand (CRo v26 b26)).or K_top0) 5000 Tryz.f5 (restn 4 fullL) (frOf fsA) (hOf 6868 []) = true := (by as_aux_lemma => kernel_rfl)
theorem back26 : Back 26 := by
  intro q g1 g2 w0 a w hq s
  obtain rfl : q = 302 := by omega
  letI : Tab := ((RLk (x := 26) (q := 302) (s := 0) (d := 0) (o := 0) 26 rfl (by decide) (by decide)).tab)
  exact runTrue_sound (T := ((RLk (x := 26) (q := 302) (s := 0) (d := 0) (o := 0) 26 rfl (by decide) (by decide)).tab)) sp.mixed (HandOk.or (inHand_ok (InOk.tab (VRows.same _ _) cr26) (by kernel_rfl)) K_top0_ok) run26 (St.same (VRows.same _ _) s)
theorem run30 : runTrue ((RLk (x := 30) (q := 346) (s := 0) (d := 0) (o := 0) 30 rfl (by decide) (by decide)).tab) Tryz.prog ((inHand (CRo v30 b30)).or K_top0) 5000 Tryz.f5 (restn 4 fullL) (frOf fsA) (hOf 6868 []) = true := (by as_aux_lemma => kernel_rfl)
theorem back30 : Back 30 := by
  intro q g1 g2 w0 a w hq s
  obtain rfl : q = 346 := by omega
  letI : Tab := ((RLk (x := 30) (q := 346) (s := 0) (d := 0) (o := 0) 30 rfl (by decide) (by decide)).tab)
  exact runTrue_sound (T := ((RLk (x := 30) (q := 346) (s := 0) (d := 0) (o := 0) 30 rfl (by decide) (by decide)).tab)) sp.mixed (HandOk.or (inHand_ok (InOk.tab (VRows.same _ _) cr30) (by kernel_rfl)) K_top0_ok) run30 (St.same (VRows.same _ _) s)
theorem run34 : runTrue ((RLk (x := 34) (q := 390) (s := 0) (d := 0) (o := 0) 34 rfl (by decide) (by decide)).tab) Tryz.prog ((inHand (CRo v34 b34)).or K_top0) 5000 Tryz.f5 (restn 4 fullL) (frOf fsA) (hOf 6868 []) = true := (by as_aux_lemma => kernel_rfl)
theorem back34 : Back 34 := by
  intro q g1 g2 w0 a w hq s
  obtain rfl : q = 390 := by omega
  letI : Tab := ((RLk (x := 34) (q := 390) (s := 0) (d := 0) (o := 0) 34 rfl (by decide) (by decide)).tab)
  exact runTrue_sound (T := ((RLk (x := 34) (q := 390) (s := 0) (d := 0) (o := 0) 34 rfl (by decide) (by decide)).tab)) sp.mixed (HandOk.or (inHand_ok (InOk.tab (VRows.same _ _) cr34) (by kernel_rfl)) K_top0_ok) run34 (St.same (VRows.same _ _) s)
theorem run38 : runTrue ((RLk (x := 38) (q := 434) (s := 0) (d := 0) (o := 0) 38 rfl (by decide) (by decide)).tab) Tryz.prog ((inHand (CRo v38 b38)).or K_top0) 5000 Tryz.f5 (restn 4 fullL) (frOf fsA) (hOf 6868 []) = true := (by as_aux_lemma => kernel_rfl)
theorem back38 : Back 38 := by
  intro q g1 g2 w0 a w hq s
  obtain rfl : q = 434 := by omega
  letI : Tab := ((RLk (x := 38) (q := 434) (s := 0) (d := 0) (o := 0) 38 rfl (by decide) (by decide)).tab)
  exact runTrue_sound (T := ((RLk (x := 38) (q := 434) (s := 0) (d := 0) (o := 0) 38 rfl (by decide) (by decide)).tab)) sp.mixed (HandOk.or (inHand_ok (InOk.tab (VRows.same _ _) cr38) (by kernel_rfl)) K_top0_ok) run38 (St.same (VRows.same _ _) s)
end Go.Proofs.YtbgkinjicnnkiaaGreatDoor.sc
