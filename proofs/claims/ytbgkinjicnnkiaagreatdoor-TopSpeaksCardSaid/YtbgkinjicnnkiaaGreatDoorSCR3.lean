/-
  The law TopSpeaks, number by number.
-/
import Derived.Test.YtbgkinjicnnkiaaGreatDoorSNN
import Derived.Test.YtbgkinjicnnkiaaGreatDoorSCL
set_option linter.unusedSectionVars false
set_option linter.unusedVariables false
set_option maxRecDepth 1000000
set_option maxHeartbeats 0
namespace Go.Proofs.YtbgkinjicnnkiaaGreatDoor.sc
open Go.X Go.RowKit Go.Proofs.YtbgkinjicnnkiaaGreatDoor.sq Go.Proofs.YtbgkinjicnnkiaaGreatDoor
theorem run4 : runTrue ((RLk (x := 4) (q := 60) (s := 0) (d := 0) (o := 0) 4 rfl (by decide) (by decide)).tab) Tryz.prog ((inHand (CRo v4 b4)).or K_top0) 5000 Tryz.f5 (restn 4 fullL) (frOf fsA) (hOf 6868 []) = true := (by as_aux_lemma => kernel_rfl)
theorem back4 : Back 4 := by
  intro q g1 g2 w0 a w hq s
  obtain rfl : q = 60 := by omega
  letI : Tab := ((RLk (x := 4) (q := 60) (s := 0) (d := 0) (o := 0) 4 rfl (by decide) (by decide)).tab)
  exact runTrue_sound (T := ((RLk (x := 4) (q := 60) (s := 0) (d := 0) (o := 0) 4 rfl (by decide) (by decide)).tab)) sp.mixed (HandOk.or (inHand_ok (InOk.tab (VRows.same _ _) cr4) (by kernel_rfl)) K_top0_ok) run4 (St.same (VRows.same _ _) s)
theorem run8 : runTrue ((RLk (x := 8) (q := 104) (s := 0) (d := 0) (o := 0) 8 rfl (by decide) (by decide)).tab) Tryz.prog ((inHand (CRo v8 b8)).or K_top0) 5000 Tryz.f5 (restn 4 fullL) (frOf fsA) (hOf 6868 []) = true := (by as_aux_lemma => kernel_rfl)
theorem back8 : Back 8 := by
  intro q g1 g2 w0 a w hq s
  obtain rfl : q = 104 := by omega
  letI : Tab := ((RLk (x := 8) (q := 104) (s := 0) (d := 0) (o := 0) 8 rfl (by decide) (by decide)).tab)
  exact runTrue_sound (T := ((RLk (x := 8) (q := 104) (s := 0) (d := 0) (o := 0) 8 rfl (by decide) (by decide)).tab)) sp.mixed (HandOk.or (inHand_ok (InOk.tab (VRows.same _ _) cr8) (by kernel_rfl)) K_top0_ok) run8 (St.same (VRows.same _ _) s)
theorem run12 : runTrue ((RLk (x := 12) (q := 148) (s := 0) (d := 0) (o := 0) 12 rfl (by decide) (by decide)).tab) Tryz.prog ((inHand (CRo v12 b12)).or K_top0) 5000 Tryz.f5 (restn 4 fullL) (frOf fsA) (hOf 6868 []) = true := (by as_aux_lemma => kernel_rfl)
theorem back12 : Back 12 := by
  intro q g1 g2 w0 a w hq s
  obtain rfl : q = 148 := by omega
  letI : Tab := ((RLk (x := 12) (q := 148) (s := 0) (d := 0) (o := 0) 12 rfl (by decide) (by decide)).tab)
  exact runTrue_sound (T := ((RLk (x := 12) (q := 148) (s := 0) (d := 0) (o := 0) 12 rfl (by decide) (by decide)).tab)) sp.mixed (HandOk.or (inHand_ok (InOk.tab (VRows.same _ _) cr12) (by kernel_rfl)) K_top0_ok) run12 (St.same (VRows.same _ _) s)
theorem run16 : runTrue ((RLk (x := 16) (q := 192) (s := 0) (d := 0) (o := 0) 16 rfl (by decide) (by decide)).tab) Tryz.prog ((inHand (CRo v16 b16)).or K_top0) 5000 Tryz.f5 (restn 4 fullL) (frOf fsA) (hOf 6868 []) = true := (by as_aux_lemma => kernel_rfl)
theorem back16 : Back 16 := by
  intro q g1 g2 w0 a w hq s
  obtain rfl : q = 192 := by omega
  letI : Tab := ((RLk (x := 16) (q := 192) (s := 0) (d := 0) (o := 0) 16 rfl (by decide) (by decide)).tab)
  exact runTrue_sound (T := ((RLk (x := 16) (q := 192) (s := 0) (d := 0) (o := 0) 16 rfl (by decide) (by decide)).tab)) sp.mixed (HandOk.or (inHand_ok (InOk.tab (VRows.same _ _) cr16) (by kernel_rfl)) K_top0_ok) run16 (St.same (VRows.same _ _) s)
theorem run20 : runTrue ((RLk (x := 20) (q := 236) (s := 0) (d := 0) (o := 0) 20 rfl (by decide) (by decide)).tab) Tryz.prog ((inHand (CRo v20 b20)).or K_top0) 5000 Tryz.f5 (restn 4 fullL) (frOf fsA) (hOf 6868 []) = true := (by as_aux_lemma => kernel_rfl)
theorem back20 : Back 20 := by
  intro q g1 g2 w0 a w hq s
  obtain rfl : q = 236 := by omega
  letI : Tab := ((RLk (x := 20) (q := 236) (s := 0) (d := 0) (o := 0) 20 rfl (by decide) (by decide)).tab)
  exact runTrue_sound (T := ((RLk (x := 20) (q := 236) (s := 0) (d := 0) (o := 0) 20 rfl (by decide) (by decide)).tab)) sp.mixed (HandOk.or (inHand_ok (InOk.tab (VRows.same _ _) cr20) (by kernel_rfl)) K_top0_ok) run20 (St.same (VRows.same _ _) s)
theorem run24 : runTrue ((RLk (x := 24) (q := 280) (s := 0) (d := 0) (o := 0) 24 rfl (by decide) (by decide)).tab) Tryz.prog ((inHand (CRo v24 b24)).or K_top0) 5000 Tryz.f5 (restn 4 fullL) (frOf fsA) (hOf 6868 []) = true := (by as_aux_lemma => kernel_rfl)
theorem back24 : Back 24 := by
  intro q g1 g2 w0 a w hq s
  obtain rfl : q = 280 := by omega
  letI : Tab := ((RLk (x := 24) (q := 280) (s := 0) (d := 0) (o := 0) 24 rfl (by decide) (by decide)).tab)
  exact runTrue_sound (T := ((RLk (x := 24) (q := 280) (s := 0) (d := 0) (o := 0) 24 rfl (by decide) (by decide)).tab)) sp.mixed (HandOk.or (inHand_ok (InOk.tab (VRows.same _ _) cr24) (by kernel_rfl)) K_top0_ok) run24 (St.same (VRows.same _ _) s)
theorem run28 : runTrue ((RLk (x := 28) (q := 324) (s := 0) (d := 0) (o := 0) 28 rfl (by decide) (by decide)).tab) Tryz.prog ((inHand (CRo v28 b28)).or K_top0) 5000 Tryz.f5 (restn 4 fullL) (frOf fsA) (hOf 6868 []) = true := (by as_aux_lemma => kernel_rfl)
theorem back28 : Back 28 := by
  intro q g1 g2 w0 a w hq s
  obtain rfl : q = 324 := by omega
  letI : Tab := ((RLk (x := 28) (q := 324) (s := 0) (d := 0) (o := 0) 28 rfl (by decide) (by decide)).tab)
  exact runTrue_sound (T := ((RLk (x := 28) (q := 324) (s := 0) (d := 0) (o := 0) 28 rfl (by decide) (by decide)).tab)) sp.mixed (HandOk.or (inHand_ok (InOk.tab (VRows.same _ _) cr28) (by kernel_rfl)) K_top0_ok) run28 (St.same (VRows.same _ _) s)
theorem run32 : runTrue ((RLk (x := 32) (q := 368) (s := 0) (d := 0) (o := 0) 32 rfl (by decide) (by decide)).tab) Tryz.prog ((inHand (CRo v32 b32)).or K_top0) 5000 Tryz.f5 (restn 4 fullL) (frOf fsA) (hOf 6868 []) = true := (by as_aux_lemma => kernel_rfl)
theorem back32 : Back 32 := by
  intro q g1 g2 w0 a w hq s
  obtain rfl : q = 368 := by omega
  letI : Tab := ((RLk (x := 32) (q := 368) (s := 0) (d := 0) (o := 0) 32 rfl (by decide) (by decide)).tab)
  exact runTrue_sound (T := ((RLk (x := 32) (q := 368) (s := 0) (d := 0) (o := 0) 32 rfl (by decide) (by decide)).tab)) sp.mixed (HandOk.or (inHand_ok (InOk.tab (VRows.same _ _) cr32) (by kernel_rfl)) K_top0_ok) run32 (St.same (VRows.same _ _) s)
theorem run36 : runTrue ((RLk (x := 36) (q := 412) (s := 0) (d := 0) (o := 0) 36 rfl (by decide) (by decide)).tab) Tryz.prog ((inHand (CRo v36 b36)).or K_top0) 5000 Tryz.f5 (restn 4 fullL) (frOf fsA) (hOf 6868 []) = true := (by as_aux_lemma => kernel_rfl)
theorem back36 : Back 36 := by
  intro q g1 g2 w0 a w hq s
  obtain rfl : q = 412 := by omega
  letI : Tab := ((RLk (x := 36) (q := 412) (s := 0) (d := 0) (o := 0) 36 rfl (by decide) (by decide)).tab)
  exact runTrue_sound (T := ((RLk (x := 36) (q := 412) (s := 0) (d := 0) (o := 0) 36 rfl (by decide) (by decide)).tab)) sp.mixed (HandOk.or (inHand_ok (InOk.tab (VRows.same _ _) cr36) (by kernel_rfl)) K_top0_ok) run36 (St.same (VRows.same _ _) s)
end Go.Proofs.YtbgkinjicnnkiaaGreatDoor.sc
