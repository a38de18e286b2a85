/-
  The law TopSpeaks, number by number.
-/
import Derived.Test.YtbgkinjicnnkiaaGreatDoorSNN
import Derived.Test.YtbgkinjicnnkiaaGreatDoorSCL
set_option linter.unusedSectionVars false
set_option linter.unusedVariables false
set_option maxRecDepth 1000000
set_option maxHeartbeats 0
namespace Go.Proofs.YtbgkinjicnnkiaaGreatDoor.sc
open Go.X Go.RowKit Go.Proofs.YtbgkinjicnnkiaaGreatDoor.sq Go.Proofs.YtbgkinjicnnkiaaGreatDoor
theorem run3 : runTrue ((RLk (x := 3) (q := 49) (s := 0) (d := 0) (o := 0) 3 rfl (by decide) (by decide)).tab) Tryz.prog ((inHand (CRo v3 b3)).or K_top0) 5000 Tryz.f5 (restn 4 fullL) (frOf fsA) (hOf 6868 []) = true := (by as_aux_lemma => kernel_rfl)
theorem back3 : Back 3 := by
  intro q g1 g2 w0 a w hq s
  obtain rfl : q = 49 := by omega
  letI : Tab := ((RLk (x := 3) (q := 49) (s := 0) (d := 0) (o := 0) 3 rfl (by decide) (by decide)).tab)
  exact runTrue_sound (T := ((RLk (x := 3) (q := 49) (s := 0) (d := 0) (o := 0) 3 rfl (by decide) (by decide)).tab)) sp.mixed (HandOk.or (inHand_ok (InOk.tab (VRows.same _ _) cr3) (by kernel_rfl)) K_top0_ok) run3 (St.same (VRows.same _ _) s)
theorem run7 : runTrue ((RLk (x := 7) (q := 93) (s := 0) (d := 0) (o := 0) 7 rfl (by decide) (by decide)).tab) Tryz.prog ((inHand (CRo v7 b7)).or K_top0) 5000 Tryz.f5 (restn 4 fullL) (frOf fsA) (hOf 6868 []) = true := (by as_aux_lemma => kernel_rfl)
theorem back7 : Back 7 := by
  intro q g1 g2 w0 a w hq s
  obtain rfl : q = 93 := by omega
  letI : Tab := ((RLk (x := 7) (q := 93) (s := 0) (d := 0) (o := 0) 7 rfl (by decide) (by decide)).tab)
  exact runTrue_sound (T := ((RLk (x := 7) (q := 93) (s := 0) (d := 0) (o := 0) 7 rfl (by decide) (by decide)).tab)) sp.mixed (HandOk.or (inHand_ok (InOk.tab (VRows.same _ _) cr7) (by kernel_rfl)) K_top0_ok) run7 (St.same (VRows.same _ _) s)
theorem run11 : runTrue ((RLk (x := 11) (q := 137) (s := 0) (d := 0) (o := 0) 11 rfl (by decide) (by decide)).tab) Tryz.prog ((inHand (CRo v11 b11)).or K_top0) 5000 Tryz.f5 (restn 4 fullL) (frOf fsA) (hOf 6868 []) = true := (by as_aux_lemma => kernel_rfl)
theorem back11 : Back 11 := by
  intro q g1 g2 w0 a w hq s
  obtain rfl : q = 137 := by omega
  letI : Tab := ((RLk (x := 11) (q := 137) (s := 0) (d := 0) (o := 0) 11 rfl (by decide) (by decide)).tab)
  exact runTrue_sound (T := ((RLk (x := 11) (q := 137) (s := 0) (d := 0) (o := 0) 11 rfl (by decide) (by decide)).tab)) sp.mixed (HandOk.or (inHand_ok (InOk.tab (VRows.same _ _) cr11) (by kernel_rfl)) K_top0_ok) run11 (St.same (VRows.same _ _) s)
theorem run15 : runTrue ((RLk (x := 15) (q := 181) (s := 0) (d := 0) (o := 0) 15 rfl (by decide) (by decide)).tab) Tryz.prog ((inHand (CRo v15 b15)).or K_top0) 5000 Tryz.f5 (restn 4 fullL) (frOf fsA) (hOf 6868 []) = true := (by as_aux_lemma => kernel_rfl)
theorem back15 : Back 15 := by
  intro q g1 g2 w0 a w hq s
  obtain rfl : q = 181 := by omega
  letI : Tab := ((RLk (x := 15) (q := 181) (s := 0) (d := 0) (o := 0) 15 rfl (by decide) (by decide)).tab)
  exact runTrue_sound (T := ((RLk (x := 15) (q := 181) (s := 0) (d := 0) (o := 0) 15 rfl (by decide) (by decide)).tab)) sp.mixed (HandOk.or (inHand_ok (InOk.tab (VRows.same _ _) cr15) (by kernel_rfl)) K_top0_ok) run15 (St.same (VRows.same _ _) s)
theorem run19 : runTrue ((RLk (x := 19) (q := 225) (s := 0) (d := 0) (o := 0) 19 rfl (by decide) (by decide)).tab) Tryz.prog ((inHand (CRo v19 b19)).or K_top0) 5000 Tryz.f5 (restn 4 fullL) (frOf fsA) (hOf 6868 []) = true := (by as_aux_lemma => kernel_rfl)
theorem back19 : Back 19 := by
  intro q g1 g2 w0 a w hq s
  obtain rfl : q = 225 := by omega
  letI : Tab := ((RLk (x := 19) (q := 225) (s := 0) (d := 0) (o := 0) 19 rfl (by decide) (by decide)).tab)
  exact runTrue_sound (T := ((RLk (x := 19) (q := 225) (s := 0) (d := 0) (o := 0) 19 rfl (by decide) (by decide)).tab)) sp.mixed (HandOk.or (inHand_ok (InOk.tab (VRows.same _ _) cr19) (by kernel_rfl)) K_top0_ok) run19 (St.same (VRows.same _ _) s)
theorem run23 : runTrue ((RLk (x := 23) (q := 269) (s := 0) (d := 0) (o := 0) 23 rfl (by decide) (by decide)).tab) Tryz.prog ((inHand (CRo v23 b23)).or K_top0) 5000 Tryz.f5 (restn 4 fullL) (frOf fsA) (hOf 6868 []) = true := (by as_aux_lemma => kernel_rfl)
theorem back23 : Back 23 := by
  intro q g1 g2 w0 a w hq s
  obtain rfl : q = 269 := by omega
  letI : Tab := ((RLk (x := 23) (q := 269) (s := 0) (d := 0) (o := 0) 23 rfl (by decide) (by decide)).tab)
  exact runTrue_sound (T := ((RLk (x := 23) (q := 269) (s := 0) (d := 0) (o := 0) 23 rfl (by decide) (by decide)).tab)) sp.mixed (HandOk.or (inHand_ok (InOk.tab (VRows.same _ _) cr23) (by kernel_rfl)) K_top0_ok) run23 (St.same (VRows.same _ _) s)
theorem run27 : runTrue ((RLk (x := 27) (q := 313) (s := 0) (d := 0) (o := 0) 27 rfl (by decide) (by decide)).tab) Tryz.prog ((inHand (CRo v27 b27)).or K_top0) 5000 Tryz.f5 (restn 4 fullL) (frOf fsA) (hOf 6868 []) = true := (by as_aux_lemma => kernel_rfl)
theorem back27 : Back 27 := by
  intro q g1 g2 w0 a w hq s
  obtain rfl : q = 313 := by omega
  letI : Tab := ((RLk (x := 27) (q := 313) (s := 0) (d := 0) (o := 0) 27 rfl (by decide) (by decide)).tab)
  exact runTrue_sound (T := ((RLk (x := 27) (q := 313) (s := 0) (d := 0) (o := 0) 27 rfl (by decide) (by decide)).tab)) sp.mixed (HandOk.or (inHand_ok (InOk.tab (VRows.same _ _) cr27) (by kernel_rfl)) K_top0_ok) run27 (St.same (VRows.same _ _) s)
theorem run31 : runTrue ((RLk (x := 31) (q := 357) (s := 0) (d := 0) (o := 0) 31 rfl (by decide) (by decide)).tab) Tryz.prog ((inHand (CRo v31 b31)).or K_top0) 5000 Tryz.f5 (restn 4 fullL) (frOf fsA) (hOf 6868 []) = true := (by as_aux_lemma => kernel_rfl)
theorem back31 : Back 31 := by
  intro q g1 g2 w0 a w hq s
  obtain rfl : q = 357 := by omega
  letI : Tab := ((RLk (x := 31) (q := 357) (s := 0) (d := 0) (o := 0) 31 rfl (by decide) (by decide)).tab)
  exact runTrue_sound (T := ((RLk (x := 31) (q := 357) (s := 0) (d := 0) (o := 0) 31 rfl (by decide) (by decide)).tab)) sp.mixed (HandOk.or (inHand_ok (InOk.tab (VRows.same _ _) cr31) (by kernel_rfl)) K_top0_ok) run31 (St.same (VRows.same _ _) s)
theorem run35 : runTrue ((RLk (x := 35) (q := 401) (s := 0) (d := 0) (o := 0) 35 rfl (by decide) (by decide)).tab) Tryz.prog ((inHand (CRo v35 b35)).or K_top0) 5000 Tryz.f5 (restn 4 fullL) (frOf fsA) (hOf 6868 []) = true := (by as_aux_lemma => kernel_rfl)
theorem back35 : Back 35 := by
  intro q g1 g2 w0 a w hq s
  obtain rfl : q = 401 := by omega
  letI : Tab := ((RLk (x := 35) (q := 401) (s := 0) (d := 0) (o := 0) 35 rfl (by decide) (by decide)).tab)
  exact runTrue_sound (T := ((RLk (x := 35) (q := 401) (s := 0) (d := 0) (o := 0) 35 rfl (by decide) (by decide)).tab)) sp.mixed (HandOk.or (inHand_ok (InOk.tab (VRows.same _ _) cr35) (by kernel_rfl)) K_top0_ok) run35 (St.same (VRows.same _ _) s)
theorem run39 : runTrue ((RLk (x := 39) (q := 445) (s := 0) (d := 0) (o := 0) 39 rfl (by decide) (by decide)).tab) Tryz.prog ((inHand (CRo v39 b39)).or K_top0) 5000 Tryz.f5 (restn 4 fullL) (frOf fsA) (hOf 6868 []) = true := (by as_aux_lemma => kernel_rfl)
theorem back39 : Back 39 := by
  intro q g1 g2 w0 a w hq s
  obtain rfl : q = 445 := by omega
  letI : Tab := ((RLk (x := 39) (q := 445) (s := 0) (d := 0) (o := 0) 39 rfl (by decide) (by decide)).tab)
  exact runTrue_sound (T := ((RLk (x := 39) (q := 445) (s := 0) (d := 0) (o := 0) 39 rfl (by decide) (by decide)).tab)) sp.mixed (HandOk.or (inHand_ok (InOk.tab (VRows.same _ _) cr39) (by kernel_rfl)) K_top0_ok) run39 (St.same (VRows.same _ _) s)
end Go.Proofs.YtbgkinjicnnkiaaGreatDoor.sc
