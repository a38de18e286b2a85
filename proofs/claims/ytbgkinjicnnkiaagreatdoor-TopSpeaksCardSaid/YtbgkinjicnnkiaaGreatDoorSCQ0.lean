/-
  The end of the run, for each number.
-/
import Derived.Test.YtbgkinjicnnkiaaGreatDoorSNN
import Derived.Test.YtbgkinjicnnkiaaGreatDoorSCA
set_option linter.unusedSectionVars false
set_option linter.unusedVariables false
set_option maxRecDepth 1000000
set_option maxHeartbeats 0
namespace Go.Proofs.YtbgkinjicnnkiaaGreatDoor.sc
open Go.X Go.RowKit Go.Proofs.YtbgkinjicnnkiaaGreatDoor.sq Go.Proofs.YtbgkinjicnnkiaaGreatDoor
noncomputable abbrev v1 : AV := vK 6
noncomputable abbrev bE1 : BS := [(14321, 14321, (mbK 6)), (17792, 17792, ansK), (17793, 17793, (.cells 6 true [] (T.ofList 0 .leaf (bs.ot 2))))]
noncomputable abbrev bF1 : BS := [(14321, 14321, (mbbK 6)), (17792, 17792, (aggK 6)), (17793, 17793, (.cells 6 true [] (T.ofList 0 .leaf (bs.ot 2))))]
noncomputable abbrev b1 : BL := [(14321, (mbbK 6)), (17793, (.cells 6 true [] (T.ofList 0 .leaf (bs.ot 2))))]
noncomputable abbrev bq1 : BS := [(14321, 14321, (mbK 6)), (17792, 30000, ansK), (17793, 30354, (.cells 6 true [] (T.ofList 0 .leaf (bs.ot 2))))]
theorem bqq1 : hOf 17802 bq1 = hOf 17802 bE1 := hOf_congr (by kernel_rfl)
theorem gq1 : GoQ 1 3 bE1 := by
  intro x q g1 g2 B w0 μ a w r wd c0 h3 h4 h5 h6 h7 h8 hx1 hx2 e2 hb s_
  have hip : IpOk (TDx (x := x) (r := r) (wd := wd) (c0 := c0) 3 h3 h4 h5 h6 h7 h8 hx1 hx2) (TTx (x := x) (q := q) g1 g2) ipQ := (ipCons (ipN (.i64, r + 3) rfl (show (IntKind.i64, q) = (IntKind.i64, r + 3) from Prod.ext rfl (show (q : Int) = r + 3 by omega))) ipNil)
  refine stepsTo_sound (T := (TDx (x := x) (r := r) (wd := wd) (c0 := c0) 3 h3 h4 h5 h6 h7 h8 hx1 hx2)) (T' := (TTx (x := x) (q := q) g1 g2)) (K := Hand.none) (m := 5000) sp.mixed (@HandOk.none (TDx (x := x) (r := r) (wd := wd) (c0 := c0) 3 h3 h4 h5 h6 h7 h8 hx1 hx2) Tryz.prog) (C := ⟨17792, 17802, ofPairs rlQ, ipQ⟩) (ex := .exit 0) (rl := rlQ) (vp := []) (fs := fsq) (bs := bq1)
    hb (by decide) rfl (by kernel_rfl) hip vpNil (glNone rfl rfl) (by as_aux_lemma => kernel_rfl) (St.same (VRows.rsame _ _ _) s_) (fun a' w' q_ => ⟨rfl, by rw [bqq1] at q_; exact q_⟩)
theorem gt1 : Tail v1 bE1 bF1 := by
  intro x q g1 g2 B w0 μ a w hb s
  letI : Tab := (TTx (x := x) (q := q) g1 g2)
  have hip : IpOk (TTx (x := x) (q := q) g1 g2) (TTx (x := x) (q := q) g1 g2) ipT := (ipCons (ipN _ rfl rfl) ipNil)
  refine wp_mono (runTo_sound (T := (TTx (x := x) (q := q) g1 g2)) (T' := (TTx (x := x) (q := q) g1 g2)) (K := K_top0) (n := 5000) sp.mixed (@K_top0_ok (TTx (x := x) (q := q) g1 g2)) (C := ⟨17792, 17802, ofPairs rlT, ipT⟩) (ex := .ret) (rl := rlT) (vp := []) (fs := [(10, .ptr 17792 0)]) (bs := bF1)
    hb (by decide) rfl (by kernel_rfl) hip vpNil (glNone rfl rfl) (by as_aux_lemma => kernel_rfl) s) ?_
  rintro e' a' w' ⟨rfl, s'⟩
  exact St.done (.inr rfl) (by kernel_rfl) s'
theorem cr1 : @InOk Tryz.prog (CRo v1 b1) ((RL (x := 1) (q := 27) (s := 0) (d := 0) (o := 0) (by decide) (by decide)).tab) := CR_ok (by decide) (by decide) 1 3 (by kernel_rfl) (by kernel_rfl) gq1 gt1 rfl rfl (by decide) rfl
noncomputable abbrev v5 : AV := vK 18
noncomputable abbrev bE5 : BS := [(14321, 14321, (mbK 18)), (17792, 17792, ansK), (17793, 17793, (.cells 18 true [] (T.ofList 0 .leaf (bs.ot 6))))]
noncomputable abbrev bF5 : BS := [(14321, 14321, (mbbK 18)), (17792, 17792, (aggK 18)), (17793, 17793, (.cells 18 true [] (T.ofList 0 .leaf (bs.ot 6))))]
noncomputable abbrev b5 : BL := [(14321, (mbbK 18)), (17793, (.cells 18 true [] (T.ofList 0 .leaf (bs.ot 6))))]
noncomputable abbrev bq5 : BS := [(14321, 14321, (mbK 18)), (17792, 30000, ansK), (17793, 30354, (.cells 18 true [] (T.ofList 0 .leaf (bs.ot 6))))]
theorem bqq5 : hOf 17802 bq5 = hOf 17802 bE5 := hOf_congr (by kernel_rfl)
theorem gq5 : GoQ 5 15 bE5 := by
  intro x q g1 g2 B w0 μ a w r wd c0 h3 h4 h5 h6 h7 h8 hx1 hx2 e2 hb s_
  have hip : IpOk (TDx (x := x) (r := r) (wd := wd) (c0 := c0) 15 h3 h4 h5 h6 h7 h8 hx1 hx2) (TTx (x := x) (q := q) g1 g2) ipQ := (ipCons (ipN (.i64, r + 3) rfl (show (IntKind.i64, q) = (IntKind.i64, r + 3) from Prod.ext rfl (show (q : Int) = r + 3 by omega))) ipNil)
  refine stepsTo_sound (T := (TDx (x := x) (r := r) (wd := wd) (c0 := c0) 15 h3 h4 h5 h6 h7 h8 hx1 hx2)) (T' := (TTx (x := x) (q := q) g1 g2)) (K := Hand.none) (m := 5000) sp.mixed (@HandOk.none (TDx (x := x) (r := r) (wd := wd) (c0 := c0) 15 h3 h4 h5 h6 h7 h8 hx1 hx2) Tryz.prog) (C := ⟨17792, 17802, ofPairs rlQ, ipQ⟩) (ex := .exit 0) (rl := rlQ) (vp := []) (fs := fsq) (bs := bq5)
    hb (by decide) rfl (by kernel_rfl) hip vpNil (glNone rfl rfl) (by as_aux_lemma => kernel_rfl) (St.same (VRows.rsame _ _ _) s_) (fun a' w' q_ => ⟨rfl, by rw [bqq5] at q_; exact q_⟩)
theorem gt5 : Tail v5 bE5 bF5 := by
  intro x q g1 g2 B w0 μ a w hb s
  letI : Tab := (TTx (x := x) (q := q) g1 g2)
  have hip : IpOk (TTx (x := x) (q := q) g1 g2) (TTx (x := x) (q := q) g1 g2) ipT := (ipCons (ipN _ rfl rfl) ipNil)
  refine wp_mono (runTo_sound (T := (TTx (x := x) (q := q) g1 g2)) (T' := (TTx (x := x) (q := q) g1 g2)) (K := K_top0) (n := 5000) sp.mixed (@K_top0_ok (TTx (x := x) (q := q) g1 g2)) (C := ⟨17792, 17802, ofPairs rlT, ipT⟩) (ex := .ret) (rl := rlT) (vp := []) (fs := [(10, .ptr 17792 0)]) (bs := bF5)
    hb (by decide) rfl (by kernel_rfl) hip vpNil (glNone rfl rfl) (by as_aux_lemma => kernel_rfl) s) ?_
  rintro e' a' w' ⟨rfl, s'⟩
  exact St.done (.inr rfl) (by kernel_rfl) s'
theorem cr5 : @InOk Tryz.prog (CRo v5 b5) ((RL (x := 5) (q := 71) (s := 0) (d := 0) (o := 0) (by decide) (by decide)).tab) := CR_ok (by decide) (by decide) 5 15 (by kernel_rfl) (by kernel_rfl) gq5 gt5 rfl rfl (by decide) rfl
noncomputable abbrev v9 : AV := vK 30
noncomputable abbrev bE9 : BS := [(14321, 14321, (mbK 30)), (17792, 17792, ansK), (17793, 17793, (.cells 30 true [] (T.ofList 0 .leaf (bs.ot 10))))]
noncomputable abbrev bF9 : BS := [(14321, 14321, (mbbK 30)), (17792, 17792, (aggK 30)), (17793, 17793, (.cells 30 true [] (T.ofList 0 .leaf (bs.ot 10))))]
noncomputable abbrev b9 : BL := [(14321, (mbbK 30)), (17793, (.cells 30 true [] (T.ofList 0 .leaf (bs.ot 10))))]
noncomputable abbrev bq9 : BS := [(14321, 14321, (mbK 30)), (17792, 30000, ansK), (17793, 30354, (.cells 30 true [] (T.ofList 0 .leaf (bs.ot 10))))]
theorem bqq9 : hOf 17802 bq9 = hOf 17802 bE9 := hOf_congr (by kernel_rfl)
theorem gq9 : GoQ 9 27 bE9 := by
  intro x q g1 g2 B w0 μ a w r wd c0 h3 h4 h5 h6 h7 h8 hx1 hx2 e2 hb s_
  have hip : IpOk (TDx (x := x) (r := r) (wd := wd) (c0 := c0) 27 h3 h4 h5 h6 h7 h8 hx1 hx2) (TTx (x := x) (q := q) g1 g2) ipQ := (ipCons (ipN (.i64, r + 3) rfl (show (IntKind.i64, q) = (IntKind.i64, r + 3) from Prod.ext rfl (show (q : Int) = r + 3 by omega))) ipNil)
  refine stepsTo_sound (T := (TDx (x := x) (r := r) (wd := wd) (c0 := c0) 27 h3 h4 h5 h6 h7 h8 hx1 hx2)) (T' := (TTx (x := x) (q := q) g1 g2)) (K := Hand.none) (m := 5000) sp.mixed (@HandOk.none (TDx (x := x) (r := r) (wd := wd) (c0 := c0) 27 h3 h4 h5 h6 h7 h8 hx1 hx2) Tryz.prog) (C := ⟨17792, 17802, ofPairs rlQ, ipQ⟩) (ex := .exit 0) (rl := rlQ) (vp := []) (fs := fsq) (bs := bq9)
    hb (by decide) rfl (by kernel_rfl) hip vpNil (glNone rfl rfl) (by as_aux_lemma => kernel_rfl) (St.same (VRows.rsame _ _ _) s_) (fun a' w' q_ => ⟨rfl, by rw [bqq9] at q_; exact q_⟩)
theorem gt9 : Tail v9 bE9 bF9 := by
  intro x q g1 g2 B w0 μ a w hb s
  letI : Tab := (TTx (x := x) (q := q) g1 g2)
  have hip : IpOk (TTx (x := x) (q := q) g1 g2) (TTx (x := x) (q := q) g1 g2) ipT := (ipCons (ipN _ rfl rfl) ipNil)
  refine wp_mono (runTo_sound (T := (TTx (x := x) (q := q) g1 g2)) (T' := (TTx (x := x) (q := q) g1 g2)) (K := K_top0) (n := 5000) sp.mixed (@K_top0_ok (TTx (x := x) (q := q) g1 g2)) (C := ⟨17792, 17802, ofPairs rlT, ipT⟩) (ex := .ret) (rl := rlT) (vp := []) (fs := [(10, .ptr 17792 0)]) (bs := bF9)
    hb (by decide) rfl (by kernel_rfl) hip vpNil (glNone rfl rfl) (by as_aux_lemma => kernel_rfl) s) ?_
  rintro e' a' w' ⟨rfl, s'⟩
  exact St.done (.inr rfl) (by kernel_rfl) s'
theorem cr9 : @InOk Tryz.prog (CRo v9 b9) ((RL (x := 9) (q := 115) (s := 0) (d := 0) (o := 0) (by decide) (by decide)).tab) := CR_ok (by decide) (by decide) 9 27 (by kernel_rfl) (by kernel_rfl) gq9 gt9 rfl rfl (by decide) rfl
noncomputable abbrev v13 : AV := vK 42
noncomputable abbrev bE13 : BS := [(14321, 14321, (mbK 42)), (17792, 17792, ansK), (17793, 17793, (.cells 42 true [] (T.ofList 0 .leaf (bs.ot 14))))]
noncomputable abbrev bF13 : BS := [(14321, 14321, (mbbK 42)), (17792, 17792, (aggK 42)), (17793, 17793, (.cells 42 true [] (T.ofList 0 .leaf (bs.ot 14))))]
noncomputable abbrev b13 : BL := [(14321, (mbbK 42)), (17793, (.cells 42 true [] (T.ofList 0 .leaf (bs.ot 14))))]
noncomputable abbrev bq13 : BS := [(14321, 14321, (mbK 42)), (17792, 30000, ansK), (17793, 30354, (.cells 42 true [] (T.ofList 0 .leaf (bs.ot 14))))]
theorem bqq13 : hOf 17802 bq13 = hOf 17802 bE13 := hOf_congr (by kernel_rfl)
theorem gq13 : GoQ 13 39 bE13 := by
  intro x q g1 g2 B w0 μ a w r wd c0 h3 h4 h5 h6 h7 h8 hx1 hx2 e2 hb s_
  have hip : IpOk (TDx (x := x) (r := r) (wd := wd) (c0 := c0) 39 h3 h4 h5 h6 h7 h8 hx1 hx2) (TTx (x := x) (q := q) g1 g2) ipQ := (ipCons (ipN (.i64, r + 3) rfl (show (IntKind.i64, q) = (IntKind.i64, r + 3) from Prod.ext rfl (show (q : Int) = r + 3 by omega))) ipNil)
  refine stepsTo_sound (T := (TDx (x := x) (r := r) (wd := wd) (c0 := c0) 39 h3 h4 h5 h6 h7 h8 hx1 hx2)) (T' := (TTx (x := x) (q := q) g1 g2)) (K := Hand.none) (m := 5000) sp.mixed (@HandOk.none (TDx (x := x) (r := r) (wd := wd) (c0 := c0) 39 h3 h4 h5 h6 h7 h8 hx1 hx2) Tryz.prog) (C := ⟨17792, 17802, ofPairs rlQ, ipQ⟩) (ex := .exit 0) (rl := rlQ) (vp := []) (fs := fsq) (bs := bq13)
    hb (by decide) rfl (by kernel_rfl) hip vpNil (glNone rfl rfl) (by as_aux_lemma => kernel_rfl) (St.same (VRows.rsame _ _ _) s_) (fun a' w' q_ => ⟨rfl, by rw [bqq13] at q_; exact q_⟩)
theorem gt13 : Tail v13 bE13 bF13 := by
  intro x q g1 g2 B w0 μ a w hb s
  letI : Tab := (TTx (x := x) (q := q) g1 g2)
  have hip : IpOk (TTx (x := x) (q := q) g1 g2) (TTx (x := x) (q := q) g1 g2) ipT := (ipCons (ipN _ rfl rfl) ipNil)
  refine wp_mono (runTo_sound (T := (TTx (x := x) (q := q) g1 g2)) (T' := (TTx (x := x) (q := q) g1 g2)) (K := K_top0) (n := 5000) sp.mixed (@K_top0_ok (TTx (x := x) (q := q) g1 g2)) (C := ⟨17792, 17802, ofPairs rlT, ipT⟩) (ex := .ret) (rl := rlT) (vp := []) (fs := [(10, .ptr 17792 0)]) (bs := bF13)
    hb (by decide) rfl (by kernel_rfl) hip vpNil (glNone rfl rfl) (by as_aux_lemma => kernel_rfl) s) ?_
  rintro e' a' w' ⟨rfl, s'⟩
  exact St.done (.inr rfl) (by kernel_rfl) s'
theorem cr13 : @InOk Tryz.prog (CRo v13 b13) ((RL (x := 13) (q := 159) (s := 0) (d := 0) (o := 0) (by decide) (by decide)).tab) := CR_ok (by decide) (by decide) 13 39 (by kernel_rfl) (by kernel_rfl) gq13 gt13 rfl rfl (by decide) rfl
noncomputable abbrev v17 : AV := vK 54
noncomputable abbrev bE17 : BS := [(14321, 14321, (mbK 54)), (17792, 17792, ansK), (17793, 17793, (.cells 54 true [] (T.ofList 0 .leaf (bs.ot 18))))]
noncomputable abbrev bF17 : BS := [(14321, 14321, (mbbK 54)), (17792, 17792, (aggK 54)), (17793, 17793, (.cells 54 true [] (T.ofList 0 .leaf (bs.ot 18))))]
noncomputable abbrev b17 : BL := [(14321, (mbbK 54)), (17793, (.cells 54 true [] (T.ofList 0 .leaf (bs.ot 18))))]
noncomputable abbrev bq17 : BS := [(14321, 14321, (mbK 54)), (17792, 30000, ansK), (17793, 30354, (.cells 54 true [] (T.ofList 0 .leaf (bs.ot 18))))]
theorem bqq17 : hOf 17802 bq17 = hOf 17802 bE17 := hOf_congr (by kernel_rfl)
theorem gq17 : GoQ 17 51 bE17 := by
  intro x q g1 g2 B w0 μ a w r wd c0 h3 h4 h5 h6 h7 h8 hx1 hx2 e2 hb s_
  have hip : IpOk (TDx (x := x) (r := r) (wd := wd) (c0 := c0) 51 h3 h4 h5 h6 h7 h8 hx1 hx2) (TTx (x := x) (q := q) g1 g2) ipQ := (ipCons (ipN (.i64, r + 3) rfl (show (IntKind.i64, q) = (IntKind.i64, r + 3) from Prod.ext rfl (show (q : Int) = r + 3 by omega))) ipNil)
  refine stepsTo_sound (T := (TDx (x := x) (r := r) (wd := wd) (c0 := c0) 51 h3 h4 h5 h6 h7 h8 hx1 hx2)) (T' := (TTx (x := x) (q := q) g1 g2)) (K := Hand.none) (m := 5000) sp.mixed (@HandOk.none (TDx (x := x) (r := r) (wd := wd) (c0 := c0) 51 h3 h4 h5 h6 h7 h8 hx1 hx2) Tryz.prog) (C := ⟨17792, 17802, ofPairs rlQ, ipQ⟩) (ex := .exit 0) (rl := rlQ) (vp := []) (fs := fsq) (bs := bq17)
    hb (by decide) rfl (by kernel_rfl) hip vpNil (glNone rfl rfl) (by as_aux_lemma => kernel_rfl) (St.same (VRows.rsame _ _ _) s_) (fun a' w' q_ => ⟨rfl, by rw [bqq17] at q_; exact q_⟩)
theorem gt17 : Tail v17 bE17 bF17 := by
  intro x q g1 g2 B w0 μ a w hb s
  letI : Tab := (TTx (x := x) (q := q) g1 g2)
  have hip : IpOk (TTx (x := x) (q := q) g1 g2) (TTx (x := x) (q := q) g1 g2) ipT := (ipCons (ipN _ rfl rfl) ipNil)
  refine wp_mono (runTo_sound (T := (TTx (x := x) (q := q) g1 g2)) (T' := (TTx (x := x) (q := q) g1 g2)) (K := K_top0) (n := 5000) sp.mixed (@K_top0_ok (TTx (x := x) (q := q) g1 g2)) (C := ⟨17792, 17802, ofPairs rlT, ipT⟩) (ex := .ret) (rl := rlT) (vp := []) (fs := [(10, .ptr 17792 0)]) (bs := bF17)
    hb (by decide) rfl (by kernel_rfl) hip vpNil (glNone rfl rfl) (by as_aux_lemma => kernel_rfl) s) ?_
  rintro e' a' w' ⟨rfl, s'⟩
  exact St.done (.inr rfl) (by kernel_rfl) s'
theorem cr17 : @InOk Tryz.prog (CRo v17 b17) ((RL (x := 17) (q := 203) (s := 0) (d := 0) (o := 0) (by decide) (by decide)).tab) := CR_ok (by decide) (by decide) 17 51 (by kernel_rfl) (by kernel_rfl) gq17 gt17 rfl rfl (by decide) rfl
noncomputable abbrev v21 : AV := vK 66
noncomputable abbrev bE21 : BS := [(14321, 14321, (mbK 66)), (17792, 17792, ansK), (17793, 17793, (.cells 66 true [] (T.ofList 0 .leaf (bs.ot 22))))]
noncomputable abbrev bF21 : BS := [(14321, 14321, (mbbK 66)), (17792, 17792, (aggK 66)), (17793, 17793, (.cells 66 true [] (T.ofList 0 .leaf (bs.ot 22))))]
noncomputable abbrev b21 : BL := [(14321, (mbbK 66)), (17793, (.cells 66 true [] (T.ofList 0 .leaf (bs.ot 22))))]
noncomputable abbrev bq21 : BS := [(14321, 14321, (mbK 66)), (17792, 30000, ansK), (17793, 30354, (.cells 66 true [] (T.ofList 0 .leaf (bs.ot 22))))]
theorem bqq21 : hOf 17802 bq21 = hOf 17802 bE21 := hOf_congr (by kernel_rfl)
theorem gq21 : GoQ 21 63 bE21 := by
  intro x q g1 g2 B w0 μ a w r wd c0 h3 h4 h5 h6 h7 h8 hx1 hx2 e2 hb s_
  have hip : IpOk (TDx (x := x) (r := r) (wd := wd) (c0 := c0) 63 h3 h4 h5 h6 h7 h8 hx1 hx2) (TTx (x := x) (q := q) g1 g2) ipQ := (ipCons (ipN (.i64, r + 3) rfl (show (IntKind.i64, q) = (IntKind.i64, r + 3) from Prod.ext rfl (show (q : Int) = r + 3 by omega))) ipNil)
  refine stepsTo_sound (T := (TDx (x := x) (r := r) (wd := wd) (c0 := c0) 63 h3 h4 h5 h6 h7 h8 hx1 hx2)) (T' := (TTx (x := x) (q := q) g1 g2)) (K := Hand.none) (m := 5000) sp.mixed (@HandOk.none (TDx (x := x) (r := r) (wd := wd) (c0 := c0) 63 h3 h4 h5 h6 h7 h8 hx1 hx2) Tryz.prog) (C := ⟨17792, 17802, ofPairs rlQ, ipQ⟩) (ex := .exit 0) (rl := rlQ) (vp := []) (fs := fsq) (bs := bq21)
    hb (by decide) rfl (by kernel_rfl) hip vpNil (glNone rfl rfl) (by as_aux_lemma => kernel_rfl) (St.same (VRows.rsame _ _ _) s_) (fun a' w' q_ => ⟨rfl, by rw [bqq21] at q_; exact q_⟩)
theorem gt21 : Tail v21 bE21 bF21 := by
  intro x q g1 g2 B w0 μ a w hb s
  letI : Tab := (TTx (x := x) (q := q) g1 g2)
  have hip : IpOk (TTx (x := x) (q := q) g1 g2) (TTx (x := x) (q := q) g1 g2) ipT := (ipCons (ipN _ rfl rfl) ipNil)
  refine wp_mono (runTo_sound (T := (TTx (x := x) (q := q) g1 g2)) (T' := (TTx (x := x) (q := q) g1 g2)) (K := K_top0) (n := 5000) sp.mixed (@K_top0_ok (TTx (x := x) (q := q) g1 g2)) (C := ⟨17792, 17802, ofPairs rlT, ipT⟩) (ex := .ret) (rl := rlT) (vp := []) (fs := [(10, .ptr 17792 0)]) (bs := bF21)
    hb (by decide) rfl (by kernel_rfl) hip vpNil (glNone rfl rfl) (by as_aux_lemma => kernel_rfl) s) ?_
  rintro e' a' w' ⟨rfl, s'⟩
  exact St.done (.inr rfl) (by kernel_rfl) s'
theorem cr21 : @InOk Tryz.prog (CRo v21 b21) ((RL (x := 21) (q := 247) (s := 0) (d := 0) (o := 0) (by decide) (by decide)).tab) := CR_ok (by decide) (by decide) 21 63 (by kernel_rfl) (by kernel_rfl) gq21 gt21 rfl rfl (by decide) rfl
noncomputable abbrev v25 : AV := vK 78
noncomputable abbrev bE25 : BS := [(14321, 14321, (mbK 78)), (17792, 17792, ansK), (17793, 17793, (.cells 78 true [] (T.ofList 0 .leaf (bs.ot 26))))]
noncomputable abbrev bF25 : BS := [(14321, 14321, (mbbK 78)), (17792, 17792, (aggK 78)), (17793, 17793, (.cells 78 true [] (T.ofList 0 .leaf (bs.ot 26))))]
noncomputable abbrev b25 : BL := [(14321, (mbbK 78)), (17793, (.cells 78 true [] (T.ofList 0 .leaf (bs.ot 26))))]
noncomputable abbrev bq25 : BS := [(14321, 14321, (mbK 78)), (17792, 30000, ansK), (17793, 30354, (.cells 78 true [] (T.ofList 0 .leaf (bs.ot 26))))]
theorem bqq25 : hOf 17802 bq25 = hOf 17802 bE25 := hOf_congr (by kernel_rfl)
theorem gq25 : GoQ 25 75 bE25 := by
  intro x q g1 g2 B w0 μ a w r wd c0 h3 h4 h5 h6 h7 h8 hx1 hx2 e2 hb s_
  have hip : IpOk (TDx (x := x) (r := r) (wd := wd) (c0 := c0) 75 h3 h4 h5 h6 h7 h8 hx1 hx2) (TTx (x := x) (q := q) g1 g2) ipQ := (ipCons (ipN (.i64, r + 3) rfl (show (IntKind.i64, q) = (IntKind.i64, r + 3) from Prod.ext rfl (show (q : Int) = r + 3 by omega))) ipNil)
  refine stepsTo_sound (T := (TDx (x := x) (r := r) (wd := wd) (c0 := c0) 75 h3 h4 h5 h6 h7 h8 hx1 hx2)) (T' := (TTx (x := x) (q := q) g1 g2)) (K := Hand.none) (m := 5000) sp.mixed (@HandOk.none (TDx (x := x) (r := r) (wd := wd) (c0 := c0) 75 h3 h4 h5 h6 h7 h8 hx1 hx2) Tryz.prog) (C := ⟨17792, 17802, ofPairs rlQ, ipQ⟩) (ex := .exit 0) (rl := rlQ) (vp := []) (fs := fsq) (bs := bq25)
    hb (by decide) rfl (by kernel_rfl) hip vpNil (glNone rfl rfl) (by as_aux_lemma => kernel_rfl) (St.same (VRows.rsame _ _ _) s_) (fun a' w' q_ => ⟨rfl, by rw [bqq25] at q_; exact q_⟩)
theorem gt25 : Tail v25 bE25 bF25 := by
  intro x q g1 g2 B w0 μ a w hb s
  letI : Tab := (TTx (x := x) (q := q) g1 g2)
  have hip : IpOk (TTx (x := x) (q := q) g1 g2) (TTx (x := x) (q := q) g1 g2) ipT := (ipCons (ipN _ rfl rfl) ipNil)
  refine wp_mono (runTo_sound (T := (TTx (x := x) (q := q) g1 g2)) (T' := (TTx (x := x) (q := q) g1 g2)) (K := K_top0) (n := 5000) sp.mixed (@K_top0_ok (TTx (x := x) (q := q) g1 g2)) (C := ⟨17792, 17802, ofPairs rlT, ipT⟩) (ex := .ret) (rl := rlT) (vp := []) (fs := [(10, .ptr 17792 0)]) (bs := bF25)
    hb (by decide) rfl (by kernel_rfl) hip vpNil (glNone rfl rfl) (by as_aux_lemma => kernel_rfl) s) ?_
  rintro e' a' w' ⟨rfl, s'⟩
  exact St.done (.inr rfl) (by kernel_rfl) s'
theorem cr25 : @InOk Tryz.prog (CRo v25 b25) ((RL (x := 25) (q := 291) (s := 0) (d := 0) (o := 0) (by decide) (by decide)).tab) := CR_ok (by decide) (by decide) 25 75 (by kernel_rfl) (by kernel_rfl) gq25 gt25 rfl rfl (by decide) rfl
noncomputable abbrev v29 : AV := vK 90
noncomputable abbrev bE29 : BS := [(14321, 14321, (mbK 90)), (17792, 17792, ansK), (17793, 17793, (.cells 90 true [] (T.ofList 0 .leaf (bs.ot 30))))]
noncomputable abbrev bF29 : BS := [(14321, 14321, (mbbK 90)), (17792, 17792, (aggK 90)), (17793, 17793, (.cells 90 true [] (T.ofList 0 .leaf (bs.ot 30))))]
noncomputable abbrev b29 : BL := [(14321, (mbbK 90)), (17793, (.cells 90 true [] (T.ofList 0 .leaf (bs.ot 30))))]
noncomputable abbrev bq29 : BS := [(14321, 14321, (mbK 90)), (17792, 30000, ansK), (17793, 30354, (.cells 90 true [] (T.ofList 0 .leaf (bs.ot 30))))]
theorem bqq29 : hOf 17802 bq29 = hOf 17802 bE29 := hOf_congr (by kernel_rfl)
theorem gq29 : GoQ 29 87 bE29 := by
  intro x q g1 g2 B w0 μ a w r wd c0 h3 h4 h5 h6 h7 h8 hx1 hx2 e2 hb s_
  have hip : IpOk (TDx (x := x) (r := r) (wd := wd) (c0 := c0) 87 h3 h4 h5 h6 h7 h8 hx1 hx2) (TTx (x := x) (q := q) g1 g2) ipQ := (ipCons (ipN (.i64, r + 3) rfl (show (IntKind.i64, q) = (IntKind.i64, r + 3) from Prod.ext rfl (show (q : Int) = r + 3 by omega))) ipNil)
  refine stepsTo_sound (T := (TDx (x := x) (r := r) (wd := wd) (c0 := c0) 87 h3 h4 h5 h6 h7 h8 hx1 hx2)) (T' := (TTx (x := x) (q := q) g1 g2)) (K := Hand.none) (m := 5000) sp.mixed (@HandOk.none (TDx (x := x) (r := r) (wd := wd) (c0 := c0) 87 h3 h4 h5 h6 h7 h8 hx1 hx2) Tryz.prog) (C := ⟨17792, 17802, ofPairs rlQ, ipQ⟩) (ex := .exit 0) (rl := rlQ) (vp := []) (fs := fsq) (bs := bq29)
    hb (by decide) rfl (by kernel_rfl) hip vpNil (glNone rfl rfl) (by as_aux_lemma => kernel_rfl) (St.same (VRows.rsame _ _ _) s_) (fun a' w' q_ => ⟨rfl, by rw [bqq29] at q_; exact q_⟩)
theorem gt29 : Tail v29 bE29 bF29 := by
  intro x q g1 g2 B w0 μ a w hb s
  letI : Tab := (TTx (x := x) (q := q) g1 g2)
  have hip : IpOk (TTx (x := x) (q := q) g1 g2) (TTx (x := x) (q := q) g1 g2) ipT := (ipCons (ipN _ rfl rfl) ipNil)
  refine wp_mono (runTo_sound (T := (TTx (x := x) (q := q) g1 g2)) (T' := (TTx (x := x) (q := q) g1 g2)) (K := K_top0) (n := 5000) sp.mixed (@K_top0_ok (TTx (x := x) (q := q) g1 g2)) (C := ⟨17792, 17802, ofPairs rlT, ipT⟩) (ex := .ret) (rl := rlT) (vp := []) (fs := [(10, .ptr 17792 0)]) (bs := bF29)
    hb (by decide) rfl (by kernel_rfl) hip vpNil (glNone rfl rfl) (by as_aux_lemma => kernel_rfl) s) ?_
  rintro e' a' w' ⟨rfl, s'⟩
  exact St.done (.inr rfl) (by kernel_rfl) s'
theorem cr29 : @InOk Tryz.prog (CRo v29 b29) ((RL (x := 29) (q := 335) (s := 0) (d := 0) (o := 0) (by decide) (by decide)).tab) := CR_ok (by decide) (by decide) 29 87 (by kernel_rfl) (by kernel_rfl) gq29 gt29 rfl rfl (by decide) rfl
noncomputable abbrev v33 : AV := vK 102
noncomputable abbrev bE33 : BS := [(14321, 14321, (mbK 102)), (17792, 17792, ansK), (17793, 17793, (.cells 102 true [] (T.ofList 0 .leaf (bs.ot 34))))]
noncomputable abbrev bF33 : BS := [(14321, 14321, (mbbK 102)), (17792, 17792, (aggK 102)), (17793, 17793, (.cells 102 true [] (T.ofList 0 .leaf (bs.ot 34))))]
noncomputable abbrev b33 : BL := [(14321, (mbbK 102)), (17793, (.cells 102 true [] (T.ofList 0 .leaf (bs.ot 34))))]
noncomputable abbrev bq33 : BS := [(14321, 14321, (mbK 102)), (17792, 30000, ansK), (17793, 30354, (.cells 102 true [] (T.ofList 0 .leaf (bs.ot 34))))]
theorem bqq33 : hOf 17802 bq33 = hOf 17802 bE33 := hOf_congr (by kernel_rfl)
theorem gq33 : GoQ 33 99 bE33 := by
  intro x q g1 g2 B w0 μ a w r wd c0 h3 h4 h5 h6 h7 h8 hx1 hx2 e2 hb s_
  have hip : IpOk (TDx (x := x) (r := r) (wd := wd) (c0 := c0) 99 h3 h4 h5 h6 h7 h8 hx1 hx2) (TTx (x := x) (q := q) g1 g2) ipQ := (ipCons (ipN (.i64, r + 3) rfl (show (IntKind.i64, q) = (IntKind.i64, r + 3) from Prod.ext rfl (show (q : Int) = r + 3 by omega))) ipNil)
  refine stepsTo_sound (T := (TDx (x := x) (r := r) (wd := wd) (c0 := c0) 99 h3 h4 h5 h6 h7 h8 hx1 hx2)) (T' := (TTx (x := x) (q := q) g1 g2)) (K := Hand.none) (m := 5000) sp.mixed (@HandOk.none (TDx (x := x) (r := r) (wd := wd) (c0 := c0) 99 h3 h4 h5 h6 h7 h8 hx1 hx2) Tryz.prog) (C := ⟨17792, 17802, ofPairs rlQ, ipQ⟩) (ex := .exit 0) (rl := rlQ) (vp := []) (fs := fsq) (bs := bq33)
    hb (by decide) rfl (by kernel_rfl) hip vpNil (glNone rfl rfl) (by as_aux_lemma => kernel_rfl) (St.same (VRows.rsame _ _ _) s_) (fun a' w' q_ => ⟨rfl, by rw [bqq33] at q_; exact q_⟩)
theorem gt33 : Tail v33 bE33 bF33 := by
  intro x q g1 g2 B w0 μ a w hb s
  letI : Tab := (TTx (x := x) (q := q) g1 g2)
  have hip : IpOk (TTx (x := x) (q := q) g1 g2) (TTx (x := x) (q := q) g1 g2) ipT := (ipCons (ipN _ rfl rfl) ipNil)
  refine wp_mono (runTo_sound (T := (TTx (x := x) (q := q) g1 g2)) (T' := (TTx (x := x) (q := q) g1 g2)) (K := K_top0) (n := 5000) sp.mixed (@K_top0_ok (TTx (x := x) (q := q) g1 g2)) (C := ⟨17792, 17802, ofPairs rlT, ipT⟩) (ex := .ret) (rl := rlT) (vp := []) (fs := [(10, .ptr 17792 0)]) (bs := bF33)
    hb (by decide) rfl (by kernel_rfl) hip vpNil (glNone rfl rfl) (by as_aux_lemma => kernel_rfl) s) ?_
  rintro e' a' w' ⟨rfl, s'⟩
  exact St.done (.inr rfl) (by kernel_rfl) s'
theorem cr33 : @InOk Tryz.prog (CRo v33 b33) ((RL (x := 33) (q := 379) (s := 0) (d := 0) (o := 0) (by decide) (by decide)).tab) := CR_ok (by decide) (by decide) 33 99 (by kernel_rfl) (by kernel_rfl) gq33 gt33 rfl rfl (by decide) rfl
noncomputable abbrev v37 : AV := vK 114
noncomputable abbrev bE37 : BS := [(14321, 14321, (mbK 114)), (17792, 17792, ansK), (17793, 17793, (.cells 114 true [] (T.ofList 0 .leaf (bs.ot 38))))]
noncomputable abbrev bF37 : BS := [(14321, 14321, (mbbK 114)), (17792, 17792, (aggK 114)), (17793, 17793, (.cells 114 true [] (T.ofList 0 .leaf (bs.ot 38))))]
noncomputable abbrev b37 : BL := [(14321, (mbbK 114)), (17793, (.cells 114 true [] (T.ofList 0 .leaf (bs.ot 38))))]
noncomputable abbrev bq37 : BS := [(14321, 14321, (mbK 114)), (17792, 30000, ansK), (17793, 30354, (.cells 114 true [] (T.ofList 0 .leaf (bs.ot 38))))]
theorem bqq37 : hOf 17802 bq37 = hOf 17802 bE37 := hOf_congr (by kernel_rfl)
theorem gq37 : GoQ 37 111 bE37 := by
  intro x q g1 g2 B w0 μ a w r wd c0 h3 h4 h5 h6 h7 h8 hx1 hx2 e2 hb s_
  have hip : IpOk (TDx (x := x) (r := r) (wd := wd) (c0 := c0) 111 h3 h4 h5 h6 h7 h8 hx1 hx2) (TTx (x := x) (q := q) g1 g2) ipQ := (ipCons (ipN (.i64, r + 3) rfl (show (IntKind.i64, q) = (IntKind.i64, r + 3) from Prod.ext rfl (show (q : Int) = r + 3 by omega))) ipNil)
  refine stepsTo_sound (T := (TDx (x := x) (r := r) (wd := wd) (c0 := c0) 111 h3 h4 h5 h6 h7 h8 hx1 hx2)) (T' := (TTx (x := x) (q := q) g1 g2)) (K := Hand.none) (m := 5000) sp.mixed (@HandOk.none (TDx (x := x) (r := r) (wd := wd) (c0 := c0) 111 h3 h4 h5 h6 h7 h8 hx1 hx2) Tryz.prog) (C := ⟨17792, 17802, ofPairs rlQ, ipQ⟩) (ex := .exit 0) (rl := rlQ) (vp := []) (fs := fsq) (bs := bq37)
    hb (by decide) rfl (by kernel_rfl) hip vpNil (glNone rfl rfl) (by as_aux_lemma => kernel_rfl) (St.same (VRows.rsame _ _ _) s_) (fun a' w' q_ => ⟨rfl, by rw [bqq37] at q_; exact q_⟩)
theorem gt37 : Tail v37 bE37 bF37 := by
  intro x q g1 g2 B w0 μ a w hb s
  letI : Tab := (TTx (x := x) (q := q) g1 g2)
  have hip : IpOk (TTx (x := x) (q := q) g1 g2) (TTx (x := x) (q := q) g1 g2) ipT := (ipCons (ipN _ rfl rfl) ipNil)
  refine wp_mono (runTo_sound (T := (TTx (x := x) (q := q) g1 g2)) (T' := (TTx (x := x) (q := q) g1 g2)) (K := K_top0) (n := 5000) sp.mixed (@K_top0_ok (TTx (x := x) (q := q) g1 g2)) (C := ⟨17792, 17802, ofPairs rlT, ipT⟩) (ex := .ret) (rl := rlT) (vp := []) (fs := [(10, .ptr 17792 0)]) (bs := bF37)
    hb (by decide) rfl (by kernel_rfl) hip vpNil (glNone rfl rfl) (by as_aux_lemma => kernel_rfl) s) ?_
  rintro e' a' w' ⟨rfl, s'⟩
  exact St.done (.inr rfl) (by kernel_rfl) s'
theorem cr37 : @InOk Tryz.prog (CRo v37 b37) ((RL (x := 37) (q := 423) (s := 0) (d := 0) (o := 0) (by decide) (by decide)).tab) := CR_ok (by decide) (by decide) 37 111 (by kernel_rfl) (by kernel_rfl) gq37 gt37 rfl rfl (by decide) rfl
end Go.Proofs.YtbgkinjicnnkiaaGreatDoor.sc
