/-
  The end of the run, for each number.
-/
import Derived.Test.YtbgkinjicnnkiaaGreatDoorSNN
import Derived.Test.YtbgkinjicnnkiaaGreatDoorSCA
set_option linter.unusedSectionVars false
set_option linter.unusedVariables false
set_option maxRecDepth 1000000
set_option maxHeartbeats 0
namespace Go.Proofs.YtbgkinjicnnkiaaGreatDoor.sc
open Go.X Go.RowKit Go.Proofs.YtbgkinjicnnkiaaGreatDoor.sq Go.Proofs.YtbgkinjicnnkiaaGreatDoor
noncomputable abbrev v3 : AV := vK 12
noncomputable abbrev bE3 : BS := [(14321, 14321, (mbK 12)), (17792, 17792, ansK), (17793, 17793, (.cells 12 true [] (T.ofList 0 .leaf (bs.ot 4))))]
noncomputable abbrev bF3 : BS := [(14321, 14321, (mbbK 12)), (17792, 17792, (aggK 12)), (17793, 17793, (.cells 12 true [] (T.ofList 0 .leaf (bs.ot 4))))]
noncomputable abbrev b3 : BL := [(14321, (mbbK 12)), (17793, (.cells 12 true [] (T.ofList 0 .leaf (bs.ot 4))))]
noncomputable abbrev bq3 : BS := [(14321, 14321, (mbK 12)), (17792, 30000, ansK), (17793, 30354, (.cells 12 true [] (T.ofList 0 .leaf (bs.ot 4))))]
theorem bqq3 : hOf 17802 bq3 = hOf 17802 bE3 := hOf_congr (by kernel_rfl)
theorem gq3 : GoQ 3 9 bE3 := by
  intro x q g1 g2 B w0 μ a w r wd c0 h3 h4 h5 h6 h7 h8 hx1 hx2 e2 hb s_
  have hip : IpOk (TDx (x := x) (r := r) (wd := wd) (c0 := c0) 9 h3 h4 h5 h6 h7 h8 hx1 hx2) (TTx (x := x) (q := q) g1 g2) ipQ := (ipCons (ipN (.i64, r + 3) rfl (show (IntKind.i64, q) = (IntKind.i64, r + 3) from Prod.ext rfl (show (q : Int) = r + 3 by omega))) ipNil)
  refine stepsTo_sound (T := (TDx (x := x) (r := r) (wd := wd) (c0 := c0) 9 h3 h4 h5 h6 h7 h8 hx1 hx2)) (T' := (TTx (x := x) (q := q) g1 g2)) (K := Hand.none) (m := 5000) sp.mixed (@HandOk.none (TDx (x := x) (r := r) (wd := wd) (c0 := c0) 9 h3 h4 h5 h6 h7 h8 hx1 hx2) Tryz.prog) (C := ⟨17792, 17802, ofPairs rlQ, ipQ⟩) (ex := .exit 0) (rl := rlQ) (vp := []) (fs := fsq) (bs := bq3)
    hb (by decide) rfl (by kernel_rfl) hip vpNil (glNone rfl rfl) (by as_aux_lemma => kernel_rfl) (St.same (VRows.rsame _ _ _) s_) (fun a' w' q_ => ⟨rfl, by rw [bqq3] at q_; exact q_⟩)
theorem gt3 : Tail v3 bE3 bF3 := by
  intro x q g1 g2 B w0 μ a w hb s
  letI : Tab := (TTx (x := x) (q := q) g1 g2)
  have hip : IpOk (TTx (x := x) (q := q) g1 g2) (TTx (x := x) (q := q) g1 g2) ipT := (ipCons (ipN _ rfl rfl) ipNil)
  refine wp_mono (runTo_sound (T := (TTx (x := x) (q := q) g1 g2)) (T' := (TTx (x := x) (q := q) g1 g2)) (K := K_top0) (n := 5000) sp.mixed (@K_top0_ok (TTx (x := x) (q := q) g1 g2)) (C := ⟨17792, 17802, ofPairs rlT, ipT⟩) (ex := .ret) (rl := rlT) (vp := []) (fs := [(10, .ptr 17792 0)]) (bs := bF3)
    hb (by decide) rfl (by kernel_rfl) hip vpNil (glNone rfl rfl) (by as_aux_lemma => kernel_rfl) s) ?_
  rintro e' a' w' ⟨rfl, s'⟩
  exact St.done (.inr rfl) (by kernel_rfl) s'
theorem cr3 : @InOk Tryz.prog (CRo v3 b3) ((RL (x := 3) (q := 49) (s := 0) (d := 0) (o := 0) (by decide) (by decide)).tab) := CR_ok (by decide) (by decide) 3 9 (by kernel_rfl) (by kernel_rfl) gq3 gt3 rfl rfl (by decide) rfl
noncomputable abbrev v7 : AV := vK 24
noncomputable abbrev bE7 : BS := [(14321, 14321, (mbK 24)), (17792, 17792, ansK), (17793, 17793, (.cells 24 true [] (T.ofList 0 .leaf (bs.ot 8))))]
noncomputable abbrev bF7 : BS := [(14321, 14321, (mbbK 24)), (17792, 17792, (aggK 24)), (17793, 17793, (.cells 24 true [] (T.ofList 0 .leaf (bs.ot 8))))]
noncomputable abbrev b7 : BL := [(14321, (mbbK 24)), (17793, (.cells 24 true [] (T.ofList 0 .leaf (bs.ot 8))))]
noncomputable abbrev bq7 : BS := [(14321, 14321, (mbK 24)), (17792, 30000, ansK), (17793, 30354, (.cells 24 true [] (T.ofList 0 .leaf (bs.ot 8))))]
theorem bqq7 : hOf 17802 bq7 = hOf 17802 bE7 := hOf_congr (by kernel_rfl)
theorem gq7 : GoQ 7 21 bE7 := by
  intro x q g1 g2 B w0 μ a w r wd c0 h3 h4 h5 h6 h7 h8 hx1 hx2 e2 hb s_
  have hip : IpOk (TDx (x := x) (r := r) (wd := wd) (c0 := c0) 21 h3 h4 h5 h6 h7 h8 hx1 hx2) (TTx (x := x) (q := q) g1 g2) ipQ := (ipCons (ipN (.i64, r + 3) rfl (show (IntKind.i64, q) = (IntKind.i64, r + 3) from Prod.ext rfl (show (q : Int) = r + 3 by omega))) ipNil)
  refine stepsTo_sound (T := (TDx (x := x) (r := r) (wd := wd) (c0 := c0) 21 h3 h4 h5 h6 h7 h8 hx1 hx2)) (T' := (TTx (x := x) (q := q) g1 g2)) (K := Hand.none) (m := 5000) sp.mixed (@HandOk.none (TDx (x := x) (r := r) (wd := wd) (c0 := c0) 21 h3 h4 h5 h6 h7 h8 hx1 hx2) Tryz.prog) (C := ⟨17792, 17802, ofPairs rlQ, ipQ⟩) (ex := .exit 0) (rl := rlQ) (vp := []) (fs := fsq) (bs := bq7)
    hb (by decide) rfl (by kernel_rfl) hip vpNil (glNone rfl rfl) (by as_aux_lemma => kernel_rfl) (St.same (VRows.rsame _ _ _) s_) (fun a' w' q_ => ⟨rfl, by rw [bqq7] at q_; exact q_⟩)
theorem gt7 : Tail v7 bE7 bF7 := by
  intro x q g1 g2 B w0 μ a w hb s
  letI : Tab := (TTx (x := x) (q := q) g1 g2)
  have hip : IpOk (TTx (x := x) (q := q) g1 g2) (TTx (x := x) (q := q) g1 g2) ipT := (ipCons (ipN _ rfl rfl) ipNil)
  refine wp_mono (runTo_sound (T := (TTx (x := x) (q := q) g1 g2)) (T' := (TTx (x := x) (q := q) g1 g2)) (K := K_top0) (n := 5000) sp.mixed (@K_top0_ok (TTx (x := x) (q := q) g1 g2)) (C := ⟨17792, 17802, ofPairs rlT, ipT⟩) (ex := .ret) (rl := rlT) (vp := []) (fs := [(10, .ptr 17792 0)]) (bs := bF7)
    hb (by decide) rfl (by kernel_rfl) hip vpNil (glNone rfl rfl) (by as_aux_lemma => kernel_rfl) s) ?_
  rintro e' a' w' ⟨rfl, s'⟩
  exact St.done (.inr rfl) (by kernel_rfl) s'
theorem cr7 : @InOk Tryz.prog (CRo v7 b7) ((RL (x := 7) (q := 93) (s := 0) (d := 0) (o := 0) (by decide) (by decide)).tab) := CR_ok (by decide) (by decide) 7 21 (by kernel_rfl) (by kernel_rfl) gq7 gt7 rfl rfl (by decide) rfl
noncomputable abbrev v11 : AV := vK 36
noncomputable abbrev bE11 : BS := [(14321, 14321, (mbK 36)), (17792, 17792, ansK), (17793, 17793, (.cells 36 true [] (T.ofList 0 .leaf (bs.ot 12))))]
noncomputable abbrev bF11 : BS := [(14321, 14321, (mbbK 36)), (17792, 17792, (aggK 36)), (17793, 17793, (.cells 36 true [] (T.ofList 0 .leaf (bs.ot 12))))]
noncomputable abbrev b11 : BL := [(14321, (mbbK 36)), (17793, (.cells 36 true [] (T.ofList 0 .leaf (bs.ot 12))))]
noncomputable abbrev bq11 : BS := [(14321, 14321, (mbK 36)), (17792, 30000, ansK), (17793, 30354, (.cells 36 true [] (T.ofList 0 .leaf (bs.ot 12))))]
theorem bqq11 : hOf 17802 bq11 = hOf 17802 bE11 := hOf_congr (by kernel_rfl)
theorem gq11 : GoQ 11 33 bE11 := by
  intro x q g1 g2 B w0 μ a w r wd c0 h3 h4 h5 h6 h7 h8 hx1 hx2 e2 hb s_
  have hip : IpOk (TDx (x := x) (r := r) (wd := wd) (c0 := c0) 33 h3 h4 h5 h6 h7 h8 hx1 hx2) (TTx (x := x) (q := q) g1 g2) ipQ := (ipCons (ipN (.i64, r + 3) rfl (show (IntKind.i64, q) = (IntKind.i64, r + 3) from Prod.ext rfl (show (q : Int) = r + 3 by omega))) ipNil)
  refine stepsTo_sound (T := (TDx (x := x) (r := r) (wd := wd) (c0 := c0) 33 h3 h4 h5 h6 h7 h8 hx1 hx2)) (T' := (TTx (x := x) (q := q) g1 g2)) (K := Hand.none) (m := 5000) sp.mixed (@HandOk.none (TDx (x := x) (r := r) (wd := wd) (c0 := c0) 33 h3 h4 h5 h6 h7 h8 hx1 hx2) Tryz.prog) (C := ⟨17792, 17802, ofPairs rlQ, ipQ⟩) (ex := .exit 0) (rl := rlQ) (vp := []) (fs := fsq) (bs := bq11)
    hb (by decide) rfl (by kernel_rfl) hip vpNil (glNone rfl rfl) (by as_aux_lemma => kernel_rfl) (St.same (VRows.rsame _ _ _) s_) (fun a' w' q_ => ⟨rfl, by rw [bqq11] at q_; exact q_⟩)
theorem gt11 : Tail v11 bE11 bF11 := by
  intro x q g1 g2 B w0 μ a w hb s
  letI : Tab := (TTx (x := x) (q := q) g1 g2)
  have hip : IpOk (TTx (x := x) (q := q) g1 g2) (TTx (x := x) (q := q) g1 g2) ipT := (ipCons (ipN _ rfl rfl) ipNil)
  refine wp_mono (runTo_sound (T := (TTx (x := x) (q := q) g1 g2)) (T' := (TTx (x := x) (q := q) g1 g2)) (K := K_top0) (n := 5000) sp.mixed (@K_top0_ok (TTx (x := x) (q := q) g1 g2)) (C := ⟨17792, 17802, ofPairs rlT, ipT⟩) (ex := .ret) (rl := rlT) (vp := []) (fs := [(10, .ptr 17792 0)]) (bs := bF11)
    hb (by decide) rfl (by kernel_rfl) hip vpNil (glNone rfl rfl) (by as_aux_lemma => kernel_rfl) s) ?_
  rintro e' a' w' ⟨rfl, s'⟩
  exact St.done (.inr rfl) (by kernel_rfl) s'
theorem cr11 : @InOk Tryz.prog (CRo v11 b11) ((RL (x := 11) (q := 137) (s := 0) (d := 0) (o := 0) (by decide) (by decide)).tab) := CR_ok (by decide) (by decide) 11 33 (by kernel_rfl) (by kernel_rfl) gq11 gt11 rfl rfl (by decide) rfl
noncomputable abbrev v15 : AV := vK 48
noncomputable abbrev bE15 : BS := [(14321, 14321, (mbK 48)), (17792, 17792, ansK), (17793, 17793, (.cells 48 true [] (T.ofList 0 .leaf (bs.ot 16))))]
noncomputable abbrev bF15 : BS := [(14321, 14321, (mbbK 48)), (17792, 17792, (aggK 48)), (17793, 17793, (.cells 48 true [] (T.ofList 0 .leaf (bs.ot 16))))]
noncomputable abbrev b15 : BL := [(14321, (mbbK 48)), (17793, (.cells 48 true [] (T.ofList 0 .leaf (bs.ot 16))))]
noncomputable abbrev bq15 : BS := [(14321, 14321, (mbK 48)), (17792, 30000, ansK), (17793, 30354, (.cells 48 true [] (T.ofList 0 .leaf (bs.ot 16))))]
theorem bqq15 : hOf 17802 bq15 = hOf 17802 bE15 := hOf_congr (by kernel_rfl)
theorem gq15 : GoQ 15 45 bE15 := by
  intro x q g1 g2 B w0 μ a w r wd c0 h3 h4 h5 h6 h7 h8 hx1 hx2 e2 hb s_
  have hip : IpOk (TDx (x := x) (r := r) (wd := wd) (c0 := c0) 45 h3 h4 h5 h6 h7 h8 hx1 hx2) (TTx (x := x) (q := q) g1 g2) ipQ := (ipCons (ipN (.i64, r + 3) rfl (show (IntKind.i64, q) = (IntKind.i64, r + 3) from Prod.ext rfl (show (q : Int) = r + 3 by omega))) ipNil)
  refine stepsTo_sound (T := (TDx (x := x) (r := r) (wd := wd) (c0 := c0) 45 h3 h4 h5 h6 h7 h8 hx1 hx2)) (T' := (TTx (x := x) (q := q) g1 g2)) (K := Hand.none) (m := 5000) sp.mixed (@HandOk.none (TDx (x := x) (r := r) (wd := wd) (c0 := c0) 45 h3 h4 h5 h6 h7 h8 hx1 hx2) Tryz.prog) (C := ⟨17792, 17802, ofPairs rlQ, ipQ⟩) (ex := .exit 0) (rl := rlQ) (vp := []) (fs := fsq) (bs := bq15)
    hb (by decide) rfl (by kernel_rfl) hip vpNil (glNone rfl rfl) (by as_aux_lemma => kernel_rfl) (St.same (VRows.rsame _ _ _) s_) (fun a' w' q_ => ⟨rfl, by rw [bqq15] at q_; exact q_⟩)
theorem gt15 : Tail v15 bE15 bF15 := by
  intro x q g1 g2 B w0 μ a w hb s
  letI : Tab := (TTx (x := x) (q := q) g1 g2)
  have hip : IpOk (TTx (x := x) (q := q) g1 g2) (TTx (x := x) (q := q) g1 g2) ipT := (ipCons (ipN _ rfl rfl) ipNil)
  refine wp_mono (runTo_sound (T := (TTx (x := x) (q := q) g1 g2)) (T' := (TTx (x := x) (q := q) g1 g2)) (K := K_top0) (n := 5000) sp.mixed (@K_top0_ok (TTx (x := x) (q := q) g1 g2)) (C := ⟨17792, 17802, ofPairs rlT, ipT⟩) (ex := .ret) (rl := rlT) (vp := []) (fs := [(10, .ptr 17792 0)]) (bs := bF15)
    hb (by decide) rfl (by kernel_rfl) hip vpNil (glNone rfl rfl) (by as_aux_lemma => kernel_rfl) s) ?_
  rintro e' a' w' ⟨rfl, s'⟩
  exact St.done (.inr rfl) (by kernel_rfl) s'
theorem cr15 : @InOk Tryz.prog (CRo v15 b15) ((RL (x := 15) (q := 181) (s := 0) (d := 0) (o := 0) (by decide) (by decide)).tab) := CR_ok (by decide) (by decide) 15 45 (by kernel_rfl) (by kernel_rfl) gq15 gt15 rfl rfl (by decide) rfl
noncomputable abbrev v19 : AV := vK 60
noncomputable abbrev bE19 : BS := [(14321, 14321, (mbK 60)), (17792, 17792, ansK), (17793, 17793, (.cells 60 true [] (T.ofList 0 .leaf (bs.ot 20))))]
noncomputable abbrev bF19 : BS := [(14321, 14321, (mbbK 60)), (17792, 17792, (aggK 60)), (17793, 17793, (.cells 60 true [] (T.ofList 0 .leaf (bs.ot 20))))]
noncomputable abbrev b19 : BL := [(14321, (mbbK 60)), (17793, (.cells 60 true [] (T.ofList 0 .leaf (bs.ot 20))))]
noncomputable abbrev bq19 : BS := [(14321, 14321, (mbK 60)), (17792, 30000, ansK), (17793, 30354, (.cells 60 true [] (T.ofList 0 .leaf (bs.ot 20))))]
theorem bqq19 : hOf 17802 bq19 = hOf 17802 bE19 := hOf_congr (by kernel_rfl)
theorem gq19 : GoQ 19 57 bE19 := by
  intro x q g1 g2 B w0 μ a w r wd c0 h3 h4 h5 h6 h7 h8 hx1 hx2 e2 hb s_
  have hip : IpOk (TDx (x := x) (r := r) (wd := wd) (c0 := c0) 57 h3 h4 h5 h6 h7 h8 hx1 hx2) (TTx (x := x) (q := q) g1 g2) ipQ := (ipCons (ipN (.i64, r + 3) rfl (show (IntKind.i64, q) = (IntKind.i64, r + 3) from Prod.ext rfl (show (q : Int) = r + 3 by omega))) ipNil)
  refine stepsTo_sound (T := (TDx (x := x) (r := r) (wd := wd) (c0 := c0) 57 h3 h4 h5 h6 h7 h8 hx1 hx2)) (T' := (TTx (x := x) (q := q) g1 g2)) (K := Hand.none) (m := 5000) sp.mixed (@HandOk.none (TDx (x := x) (r := r) (wd := wd) (c0 := c0) 57 h3 h4 h5 h6 h7 h8 hx1 hx2) Tryz.prog) (C := ⟨17792, 17802, ofPairs rlQ, ipQ⟩) (ex := .exit 0) (rl := rlQ) (vp := []) (fs := fsq) (bs := bq19)
    hb (by decide) rfl (by kernel_rfl) hip vpNil (glNone rfl rfl) (by as_aux_lemma => kernel_rfl) (St.same (VRows.rsame _ _ _) s_) (fun a' w' q_ => ⟨rfl, by rw [bqq19] at q_; exact q_⟩)
theorem gt19 : Tail v19 bE19 bF19 := by
  intro x q g1 g2 B w0 μ a w hb s
  letI : Tab := (TTx (x := x) (q := q) g1 g2)
  have hip : IpOk (TTx (x := x) (q := q) g1 g2) (TTx (x := x) (q := q) g1 g2) ipT := (ipCons (ipN _ rfl rfl) ipNil)
  refine wp_mono (runTo_sound (T := (TTx (x := x) (q := q) g1 g2)) (T' := (TTx (x := x) (q := q) g1 g2)) (K := K_top0) (n := 5000) sp.mixed (@K_top0_ok (TTx (x := x) (q := q) g1 g2)) (C := ⟨17792, 17802, ofPairs rlT, ipT⟩) (ex := .ret) (rl := rlT) (vp := []) (fs := [(10, .ptr 17792 0)]) (bs := bF19)
    hb (by decide) rfl (by kernel_rfl) hip vpNil (glNone rfl rfl) (by as_aux_lemma => kernel_rfl) s) ?_
  rintro e' a' w' ⟨rfl, s'⟩
  exact St.done (.inr rfl) (by kernel_rfl) s'
theorem cr19 : @InOk Tryz.prog (CRo v19 b19) ((RL (x := 19) (q := 225) (s := 0) (d := 0) (o := 0) (by decide) (by decide)).tab) := CR_ok (by decide) (by decide) 19 57 (by kernel_rfl) (by kernel_rfl) gq19 gt19 rfl rfl (by decide) rfl
noncomputable abbrev v23 : AV := vK 72
noncomputable abbrev bE23 : BS := [(14321, 14321, (mbK 72)), (17792, 17792, ansK), (17793, 17793, (.cells 72 true [] (T.ofList 0 .leaf (bs.ot 24))))]
noncomputable abbrev bF23 : BS := [(14321, 14321, (mbbK 72)), (17792, 17792, (aggK 72)), (17793, 17793, (.cells 72 true [] (T.ofList 0 .leaf (bs.ot 24))))]
noncomputable abbrev b23 : BL := [(14321, (mbbK 72)), (17793, (.cells 72 true [] (T.ofList 0 .leaf (bs.ot 24))))]
noncomputable abbrev bq23 : BS := [(14321, 14321, (mbK 72)), (17792, 30000, ansK), (17793, 30354, (.cells 72 true [] (T.ofList 0 .leaf (bs.ot 24))))]
theorem bqq23 : hOf 17802 bq23 = hOf 17802 bE23 := hOf_congr (by kernel_rfl)
theorem gq23 : GoQ 23 69 bE23 := by
  intro x q g1 g2 B w0 μ a w r wd c0 h3 h4 h5 h6 h7 h8 hx1 hx2 e2 hb s_
  have hip : IpOk (TDx (x := x) (r := r) (wd := wd) (c0 := c0) 69 h3 h4 h5 h6 h7 h8 hx1 hx2) (TTx (x := x) (q := q) g1 g2) ipQ := (ipCons (ipN (.i64, r + 3) rfl (show (IntKind.i64, q) = (IntKind.i64, r + 3) from Prod.ext rfl (show (q : Int) = r + 3 by omega))) ipNil)
  refine stepsTo_sound (T := (TDx (x := x) (r := r) (wd := wd) (c0 := c0) 69 h3 h4 h5 h6 h7 h8 hx1 hx2)) (T' := (TTx (x := x) (q := q) g1 g2)) (K := Hand.none) (m := 5000) sp.mixed (@HandOk.none (TDx (x := x) (r := r) (wd := wd) (c0 := c0) 69 h3 h4 h5 h6 h7 h8 hx1 hx2) Tryz.prog) (C := ⟨17792, 17802, ofPairs rlQ, ipQ⟩) (ex := .exit 0) (rl := rlQ) (vp := []) (fs := fsq) (bs := bq23)
    hb (by decide) rfl (by kernel_rfl) hip vpNil (glNone rfl rfl) (by as_aux_lemma => kernel_rfl) (St.same (VRows.rsame _ _ _) s_) (fun a' w' q_ => ⟨rfl, by rw [bqq23] at q_; exact q_⟩)
theorem gt23 : Tail v23 bE23 bF23 := by
  intro x q g1 g2 B w0 μ a w hb s
  letI : Tab := (TTx (x := x) (q := q) g1 g2)
  have hip : IpOk (TTx (x := x) (q := q) g1 g2) (TTx (x := x) (q := q) g1 g2) ipT := (ipCons (ipN _ rfl rfl) ipNil)
  refine wp_mono (runTo_sound (T := (TTx (x := x) (q := q) g1 g2)) (T' := (TTx (x := x) (q := q) g1 g2)) (K := K_top0) (n := 5000) sp.mixed (@K_top0_ok (TTx (x := x) (q := q) g1 g2)) (C := ⟨17792, 17802, ofPairs rlT, ipT⟩) (ex := .ret) (rl := rlT) (vp := []) (fs := [(10, .ptr 17792 0)]) (bs := bF23)
    hb (by decide) rfl (by kernel_rfl) hip vpNil (glNone rfl rfl) (by as_aux_lemma => kernel_rfl) s) ?_
  rintro e' a' w' ⟨rfl, s'⟩
  exact St.done (.inr rfl) (by kernel_rfl) s'
theorem cr23 : @InOk Tryz.prog (CRo v23 b23) ((RL (x := 23) (q := 269) (s := 0) (d := 0) (o := 0) (by decide) (by decide)).tab) := CR_ok (by decide) (by decide) 23 69 (by kernel_rfl) (by kernel_rfl) gq23 gt23 rfl rfl (by decide) rfl
noncomputable abbrev v27 : AV := vK 84
noncomputable abbrev bE27 : BS := [(14321, 14321, (mbK 84)), (17792, 17792, ansK), (17793, 17793, (.cells 84 true [] (T.ofList 0 .leaf (bs.ot 28))))]
noncomputable abbrev bF27 : BS := [(14321, 14321, (mbbK 84)), (17792, 17792, (aggK 84)), (17793, 17793, (.cells 84 true [] (T.ofList 0 .leaf (bs.ot 28))))]
noncomputable abbrev b27 : BL := [(14321, (mbbK 84)), (17793, (.cells 84 true [] (T.ofList 0 .leaf (bs.ot 28))))]
noncomputable abbrev bq27 : BS := [(14321, 14321, (mbK 84)), (17792, 30000, ansK), (17793, 30354, (.cells 84 true [] (T.ofList 0 .leaf (bs.ot 28))))]
theorem bqq27 : hOf 17802 bq27 = hOf 17802 bE27 := hOf_congr (by kernel_rfl)
theorem gq27 : GoQ 27 81 bE27 := by
  intro x q g1 g2 B w0 μ a w r wd c0 h3 h4 h5 h6 h7 h8 hx1 hx2 e2 hb s_
  have hip : IpOk (TDx (x := x) (r := r) (wd := wd) (c0 := c0) 81 h3 h4 h5 h6 h7 h8 hx1 hx2) (TTx (x := x) (q := q) g1 g2) ipQ := (ipCons (ipN (.i64, r + 3) rfl (show (IntKind.i64, q) = (IntKind.i64, r + 3) from Prod.ext rfl (show (q : Int) = r + 3 by omega))) ipNil)
  refine stepsTo_sound (T := (TDx (x := x) (r := r) (wd := wd) (c0 := c0) 81 h3 h4 h5 h6 h7 h8 hx1 hx2)) (T' := (TTx (x := x) (q := q) g1 g2)) (K := Hand.none) (m := 5000) sp.mixed (@HandOk.none (TDx (x := x) (r := r) (wd := wd) (c0 := c0) 81 h3 h4 h5 h6 h7 h8 hx1 hx2) Tryz.prog) (C := ⟨17792, 17802, ofPairs rlQ, ipQ⟩) (ex := .exit 0) (rl := rlQ) (vp := []) (fs := fsq) (bs := bq27)
    hb (by decide) rfl (by kernel_rfl) hip vpNil (glNone rfl rfl) (by as_aux_lemma => kernel_rfl) (St.same (VRows.rsame _ _ _) s_) (fun a' w' q_ => ⟨rfl, by rw [bqq27] at q_; exact q_⟩)
theorem gt27 : Tail v27 bE27 bF27 := by
  intro x q g1 g2 B w0 μ a w hb s
  letI : Tab := (TTx (x := x) (q := q) g1 g2)
  have hip : IpOk (TTx (x := x) (q := q) g1 g2) (TTx (x := x) (q := q) g1 g2) ipT := (ipCons (ipN _ rfl rfl) ipNil)
  refine wp_mono (runTo_sound (T := (TTx (x := x) (q := q) g1 g2)) (T' := (TTx (x := x) (q := q) g1 g2)) (K := K_top0) (n := 5000) sp.mixed (@K_top0_ok (TTx (x := x) (q := q) g1 g2)) (C := ⟨17792, 17802, ofPairs rlT, ipT⟩) (ex := .ret) (rl := rlT) (vp := []) (fs := [(10, .ptr 17792 0)]) (bs := bF27)
    hb (by decide) rfl (by kernel_rfl) hip vpNil (glNone rfl rfl) (by as_aux_lemma => kernel_rfl) s) ?_
  rintro e' a' w' ⟨rfl, s'⟩
  exact St.done (.inr rfl) (by kernel_rfl) s'
theorem cr27 : @InOk Tryz.prog (CRo v27 b27) ((RL (x := 27) (q := 313) (s := 0) (d := 0) (o := 0) (by decide) (by decide)).tab) := CR_ok (by decide) (by decide) 27 81 (by kernel_rfl) (by kernel_rfl) gq27 gt27 rfl rfl (by decide) rfl
noncomputable abbrev v31 : AV := vK 96
noncomputable abbrev bE31 : BS := [(14321, 14321, (mbK 96)), (17792, 17792, ansK), (17793, 17793, (.cells 96 true [] (T.ofList 0 .leaf (bs.ot 32))))]
noncomputable abbrev bF31 : BS := [(14321, 14321, (mbbK 96)), (17792, 17792, (aggK 96)), (17793, 17793, (.cells 96 true [] (T.ofList 0 .leaf (bs.ot 32))))]
noncomputable abbrev b31 : BL := [(14321, (mbbK 96)), (17793, (.cells 96 true [] (T.ofList 0 .leaf (bs.ot 32))))]
noncomputable abbrev bq31 : BS := [(14321, 14321, (mbK 96)), (17792, 30000, ansK), (17793, 30354, (.cells 96 true [] (T.ofList 0 .leaf (bs.ot 32))))]
theorem bqq31 : hOf 17802 bq31 = hOf 17802 bE31 := hOf_congr (by kernel_rfl)
theorem gq31 : GoQ 31 93 bE31 := by
  intro x q g1 g2 B w0 μ a w r wd c0 h3 h4 h5 h6 h7 h8 hx1 hx2 e2 hb s_
  have hip : IpOk (TDx (x := x) (r := r) (wd := wd) (c0 := c0) 93 h3 h4 h5 h6 h7 h8 hx1 hx2) (TTx (x := x) (q := q) g1 g2) ipQ := (ipCons (ipN (.i64, r + 3) rfl (show (IntKind.i64, q) = (IntKind.i64, r + 3) from Prod.ext rfl (show (q : Int) = r + 3 by omega))) ipNil)
  refine stepsTo_sound (T := (TDx (x := x) (r := r) (wd := wd) (c0 := c0) 93 h3 h4 h5 h6 h7 h8 hx1 hx2)) (T' := (TTx (x := x) (q := q) g1 g2)) (K := Hand.none) (m := 5000) sp.mixed (@HandOk.none (TDx (x := x) (r := r) (wd := wd) (c0 := c0) 93 h3 h4 h5 h6 h7 h8 hx1 hx2) Tryz.prog) (C := ⟨17792, 17802, ofPairs rlQ, ipQ⟩) (ex := .exit 0) (rl := rlQ) (vp := []) (fs := fsq) (bs := bq31)
    hb (by decide) rfl (by kernel_rfl) hip vpNil (glNone rfl rfl) (by as_aux_lemma => kernel_rfl) (St.same (VRows.rsame _ _ _) s_) (fun a' w' q_ => ⟨rfl, by rw [bqq31] at q_; exact q_⟩)
theorem gt31 : Tail v31 bE31 bF31 := by
  intro x q g1 g2 B w0 μ a w hb s
  letI : Tab := (TTx (x := x) (q := q) g1 g2)
  have hip : IpOk (TTx (x := x) (q := q) g1 g2) (TTx (x := x) (q := q) g1 g2) ipT := (ipCons (ipN _ rfl rfl) ipNil)
  refine wp_mono (runTo_sound (T := (TTx (x := x) (q := q) g1 g2)) (T' := (TTx (x := x) (q := q) g1 g2)) (K := K_top0) (n := 5000) sp.mixed (@K_top0_ok (TTx (x := x) (q := q) g1 g2)) (C := ⟨17792, 17802, ofPairs rlT, ipT⟩) (ex := .ret) (rl := rlT) (vp := []) (fs := [(10, .ptr 17792 0)]) (bs := bF31)
    hb (by decide) rfl (by kernel_rfl) hip vpNil (glNone rfl rfl) (by as_aux_lemma => kernel_rfl) s) ?_
  rintro e' a' w' ⟨rfl, s'⟩
  exact St.done (.inr rfl) (by kernel_rfl) s'
theorem cr31 : @InOk Tryz.prog (CRo v31 b31) ((RL (x := 31) (q := 357) (s := 0) (d := 0) (o := 0) (by decide) (by decide)).tab) := CR_ok (by decide) (by decide) 31 93 (by kernel_rfl) (by kernel_rfl) gq31 gt31 rfl rfl (by decide) rfl
noncomputable abbrev v35 : AV := vK 108
noncomputable abbrev bE35 : BS := [(14321, 14321, (mbK 108)), (17792, 17792, ansK), (17793, 17793, (.cells 108 true [] (T.ofList 0 .leaf (bs.ot 36))))]
noncomputable abbrev bF35 : BS := [(14321, 14321, (mbbK 108)), (17792, 17792, (aggK 108)), (17793, 17793, (.cells 108 true [] (T.ofList 0 .leaf (bs.ot 36))))]
noncomputable abbrev b35 : BL := [(14321, (mbbK 108)), (17793, (.cells 108 true [] (T.ofList 0 .leaf (bs.ot 36))))]
noncomputable abbrev bq35 : BS := [(14321, 14321, (mbK 108)), (17792, 30000, ansK), (17793, 30354, (.cells 108 true [] (T.ofList 0 .leaf (bs.ot 36))))]
theorem bqq35 : hOf 17802 bq35 = hOf 17802 bE35 := hOf_congr (by kernel_rfl)
theorem gq35 : GoQ 35 105 bE35 := by
  intro x q g1 g2 B w0 μ a w r wd c0 h3 h4 h5 h6 h7 h8 hx1 hx2 e2 hb s_
  have hip : IpOk (TDx (x := x) (r := r) (wd := wd) (c0 := c0) 105 h3 h4 h5 h6 h7 h8 hx1 hx2) (TTx (x := x) (q := q) g1 g2) ipQ := (ipCons (ipN (.i64, r + 3) rfl (show (IntKind.i64, q) = (IntKind.i64, r + 3) from Prod.ext rfl (show (q : Int) = r + 3 by omega))) ipNil)
  refine stepsTo_sound (T := (TDx (x := x) (r := r) (wd := wd) (c0 := c0) 105 h3 h4 h5 h6 h7 h8 hx1 hx2)) (T' := (TTx (x := x) (q := q) g1 g2)) (K := Hand.none) (m := 5000) sp.mixed (@HandOk.none (TDx (x := x) (r := r) (wd := wd) (c0 := c0) 105 h3 h4 h5 h6 h7 h8 hx1 hx2) Tryz.prog) (C := ⟨17792, 17802, ofPairs rlQ, ipQ⟩) (ex := .exit 0) (rl := rlQ) (vp := []) (fs := fsq) (bs := bq35)
    hb (by decide) rfl (by kernel_rfl) hip vpNil (glNone rfl rfl) (by as_aux_lemma => kernel_rfl) (St.same (VRows.rsame _ _ _) s_) (fun a' w' q_ => ⟨rfl, by rw [bqq35] at q_; exact q_⟩)
theorem gt35 : Tail v35 bE35 bF35 := by
  intro x q g1 g2 B w0 μ a w hb s
  letI : Tab := (TTx (x := x) (q := q) g1 g2)
  have hip : IpOk (TTx (x := x) (q := q) g1 g2) (TTx (x := x) (q := q) g1 g2) ipT := (ipCons (ipN _ rfl rfl) ipNil)
  refine wp_mono (runTo_sound (T := (TTx (x := x) (q := q) g1 g2)) (T' := (TTx (x := x) (q := q) g1 g2)) (K := K_top0) (n := 5000) sp.mixed (@K_top0_ok (TTx (x := x) (q := q) g1 g2)) (C := ⟨17792, 17802, ofPairs rlT, ipT⟩) (ex := .ret) (rl := rlT) (vp := []) (fs := [(10, .ptr 17792 0)]) (bs := bF35)
    hb (by decide) rfl (by kernel_rfl) hip vpNil (glNone rfl rfl) (by as_aux_lemma => kernel_rfl) s) ?_
  rintro e' a' w' ⟨rfl, s'⟩
  exact St.done (.inr rfl) (by kernel_rfl) s'
theorem cr35 : @InOk Tryz.prog (CRo v35 b35) ((RL (x := 35) (q := 401) (s := 0) (d := 0) (o := 0) (by decide) (by decide)).tab) := CR_ok (by decide) (by decide) 35 105 (by kernel_rfl) (by kernel_rfl) gq35 gt35 rfl rfl (by decide) rfl
noncomputable abbrev v39 : AV := vK 120
noncomputable abbrev bE39 : BS := [(14321, 14321, (mbK 120)), (17792, 17792, ansK), (17793, 17793, (.cells 120 true [] (T.ofList 0 .leaf (bs.ot 40))))]
noncomputable abbrev bF39 : BS := [(14321, 14321, (mbbK 120)), (17792, 17792, (aggK 120)), (17793, 17793, (.cells 120 true [] (T.ofList 0 .leaf (bs.ot 40))))]
noncomputable abbrev b39 : BL := [(14321, (mbbK 120)), (17793, (.cells 120 true [] (T.ofList 0 .leaf (bs.ot 40))))]
noncomputable abbrev bq39 : BS := [(14321, 14321, (mbK 120)), (17792, 30000, ansK), (17793, 30354, (.cells 120 true [] (T.ofList 0 .leaf (bs.ot 40))))]
theorem bqq39 : hOf 17802 bq39 = hOf 17802 bE39 := hOf_congr (by kernel_rfl)
theorem gq39 : GoQ 39 117 bE39 := by
  intro x q g1 g2 B w0 μ a w r wd c0 h3 h4 h5 h6 h7 h8 hx1 hx2 e2 hb s_
  have hip : IpOk (TDx (x := x) (r := r) (wd := wd) (c0 := c0) 117 h3 h4 h5 h6 h7 h8 hx1 hx2) (TTx (x := x) (q := q) g1 g2) ipQ := (ipCons (ipN (.i64, r + 3) rfl (show (IntKind.i64, q) = (IntKind.i64, r + 3) from Prod.ext rfl (show (q : Int) = r + 3 by omega))) ipNil)
  refine stepsTo_sound (T := (TDx (x := x) (r := r) (wd := wd) (c0 := c0) 117 h3 h4 h5 h6 h7 h8 hx1 hx2)) (T' := (TTx (x := x) (q := q) g1 g2)) (K := Hand.none) (m := 5000) sp.mixed (@HandOk.none (TDx (x := x) (r := r) (wd := wd) (c0 := c0) 117 h3 h4 h5 h6 h7 h8 hx1 hx2) Tryz.prog) (C := ⟨17792, 17802, ofPairs rlQ, ipQ⟩) (ex := .exit 0) (rl := rlQ) (vp := []) (fs := fsq) (bs := bq39)
    hb (by decide) rfl (by kernel_rfl) hip vpNil (glNone rfl rfl) (by as_aux_lemma => kernel_rfl) (St.same (VRows.rsame _ _ _) s_) (fun a' w' q_ => ⟨rfl, by rw [bqq39] at q_; exact q_⟩)
theorem gt39 : Tail v39 bE39 bF39 := by
  intro x q g1 g2 B w0 μ a w hb s
  letI : Tab := (TTx (x := x) (q := q) g1 g2)
  have hip : IpOk (TTx (x := x) (q := q) g1 g2) (TTx (x := x) (q := q) g1 g2) ipT := (ipCons (ipN _ rfl rfl) ipNil)
  refine wp_mono (runTo_sound (T := (TTx (x := x) (q := q) g1 g2)) (T' := (TTx (x := x) (q := q) g1 g2)) (K := K_top0) (n := 5000) sp.mixed (@K_top0_ok (TTx (x := x) (q := q) g1 g2)) (C := ⟨17792, 17802, ofPairs rlT, ipT⟩) (ex := .ret) (rl := rlT) (vp := []) (fs := [(10, .ptr 17792 0)]) (bs := bF39)
    hb (by decide) rfl (by kernel_rfl) hip vpNil (glNone rfl rfl) (by as_aux_lemma => kernel_rfl) s) ?_
  rintro e' a' w' ⟨rfl, s'⟩
  exact St.done (.inr rfl) (by kernel_rfl) s'
theorem cr39 : @InOk Tryz.prog (CRo v39 b39) ((RL (x := 39) (q := 445) (s := 0) (d := 0) (o := 0) (by decide) (by decide)).tab) := CR_ok (by decide) (by decide) 39 117 (by kernel_rfl) (by kernel_rfl) gq39 gt39 rfl rfl (by decide) rfl
end Go.Proofs.YtbgkinjicnnkiaaGreatDoor.sc
