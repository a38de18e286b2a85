/-
  The end of the run, for each number.
-/
import Derived.Test.YtbgkinjicnnkiaaGreatDoorSNN
import Derived.Test.YtbgkinjicnnkiaaGreatDoorSCA
set_option linter.unusedSectionVars false
set_option linter.unusedVariables false
set_option maxRecDepth 1000000
set_option maxHeartbeats 0
namespace Go.Proofs.YtbgkinjicnnkiaaGreatDoor.sc
open Go.X Go.RowKit Go.Proofs.YtbgkinjicnnkiaaGreatDoor.sq Go.Proofs.YtbgkinjicnnkiaaGreatDoor
noncomputable abbrev v4 : AV := vK 15
noncomputable abbrev bE4 : BS := [(14321, 14321, (mbK 15)), (17792, 17792, ansK), (17793, 17793, (.cells 15 true [] (T.ofList 0 .leaf (bs.ot 5))))]
noncomputable abbrev bF4 : BS := [(14321, 14321, (mbbK 15)), (17792, 17792, (aggK 15)), (17793, 17793, (.cells 15 true [] (T.ofList 0 .leaf (bs.ot 5))))]
noncomputable abbrev b4 : BL := [(14321, (mbbK 15)), (17793, (.cells 15 true [] (T.ofList 0 .leaf (bs.ot 5))))]
noncomputable abbrev bq4 : BS := [(14321, 14321, (mbK 15)), (17792, 30000, ansK), (17793, 30354, (.cells 15 true [] (T.ofList 0 .leaf (bs.ot 5))))]
theorem bqq4 : hOf 17802 bq4 = hOf 17802 bE4 := hOf_congr (by kernel_rfl)
theorem gq4 : GoQ 4 12 bE4 := by
  intro x q g1 g2 B w0 μ a w r wd c0 h3 h4 h5 h6 h7 h8 hx1 hx2 e2 hb s_
  have hip : IpOk (TDx (x := x) (r := r) (wd := wd) (c0 := c0) 12 h3 h4 h5 h6 h7 h8 hx1 hx2) (TTx (x := x) (q := q) g1 g2) ipQ := (ipCons (ipN (.i64, r + 3) rfl (show (IntKind.i64, q) = (IntKind.i64, r + 3) from Prod.ext rfl (show (q : Int) = r + 3 by omega))) ipNil)
  refine stepsTo_sound (T := (TDx (x := x) (r := r) (wd := wd) (c0 := c0) 12 h3 h4 h5 h6 h7 h8 hx1 hx2)) (T' := (TTx (x := x) (q := q) g1 g2)) (K := Hand.none) (m := 5000) sp.mixed (@HandOk.none (TDx (x := x) (r := r) (wd := wd) (c0 := c0) 12 h3 h4 h5 h6 h7 h8 hx1 hx2) Tryz.prog) (C := ⟨17792, 17802, ofPairs rlQ, ipQ⟩) (ex := .exit 0) (rl := rlQ) (vp := []) (fs := fsq) (bs := bq4)
    hb (by decide) rfl (by kernel_rfl) hip vpNil (glNone rfl rfl) (by as_aux_lemma => kernel_rfl) (St.same (VRows.rsame _ _ _) s_) (fun a' w' q_ => ⟨rfl, by rw [bqq4] at q_; exact q_⟩)
theorem gt4 : Tail v4 bE4 bF4 := by
  intro x q g1 g2 B w0 μ a w hb s
  letI : Tab := (TTx (x := x) (q := q) g1 g2)
  have hip : IpOk (TTx (x := x) (q := q) g1 g2) (TTx (x := x) (q := q) g1 g2) ipT := (ipCons (ipN _ rfl rfl) ipNil)
  refine wp_mono (runTo_sound (T := (TTx (x := x) (q := q) g1 g2)) (T' := (TTx (x := x) (q := q) g1 g2)) (K := K_top0) (n := 5000) sp.mixed (@K_top0_ok (TTx (x := x) (q := q) g1 g2)) (C := ⟨17792, 17802, ofPairs rlT, ipT⟩) (ex := .ret) (rl := rlT) (vp := []) (fs := [(10, .ptr 17792 0)]) (bs := bF4)
    hb (by decide) rfl (by kernel_rfl) hip vpNil (glNone rfl rfl) (by as_aux_lemma => kernel_rfl) s) ?_
  rintro e' a' w' ⟨rfl, s'⟩
  exact St.done (.inr rfl) (by kernel_rfl) s'
theorem cr4 : @InOk Tryz.prog (CRo v4 b4) ((RL (x := 4) (q := 60) (s := 0) (d := 0) (o := 0) (by decide) (by decide)).tab) := CR_ok (by decide) (by decide) 4 12 (by kernel_rfl) (by kernel_rfl) gq4 gt4 rfl rfl (by decide) rfl
noncomputable abbrev v8 : AV := vK 27
noncomputable abbrev bE8 : BS := [(14321, 14321, (mbK 27)), (17792, 17792, ansK), (17793, 17793, (.cells 27 true [] (T.ofList 0 .leaf (bs.ot 9))))]
noncomputable abbrev bF8 : BS := [(14321, 14321, (mbbK 27)), (17792, 17792, (aggK 27)), (17793, 17793, (.cells 27 true [] (T.ofList 0 .leaf (bs.ot 9))))]
noncomputable abbrev b8 : BL := [(14321, (mbbK 27)), (17793, (.cells 27 true [] (T.ofList 0 .leaf (bs.ot 9))))]
noncomputable abbrev bq8 : BS := [(14321, 14321, (mbK 27)), (17792, 30000, ansK), (17793, 30354, (.cells 27 true [] (T.ofList 0 .leaf (bs.ot 9))))]
theorem bqq8 : hOf 17802 bq8 = hOf 17802 bE8 := hOf_congr (by kernel_rfl)
theorem gq8 : GoQ 8 24 bE8 := by
  intro x q g1 g2 B w0 μ a w r wd c0 h3 h4 h5 h6 h7 h8 hx1 hx2 e2 hb s_
  have hip : IpOk (TDx (x := x) (r := r) (wd := wd) (c0 := c0) 24 h3 h4 h5 h6 h7 h8 hx1 hx2) (TTx (x := x) (q := q) g1 g2) ipQ := (ipCons (ipN (.i64, r + 3) rfl (show (IntKind.i64, q) = (IntKind.i64, r + 3) from Prod.ext rfl (show (q : Int) = r + 3 by omega))) ipNil)
  refine stepsTo_sound (T := (TDx (x := x) (r := r) (wd := wd) (c0 := c0) 24 h3 h4 h5 h6 h7 h8 hx1 hx2)) (T' := (TTx (x := x) (q := q) g1 g2)) (K := Hand.none) (m := 5000) sp.mixed (@HandOk.none (TDx (x := x) (r := r) (wd := wd) (c0 := c0) 24 h3 h4 h5 h6 h7 h8 hx1 hx2) Tryz.prog) (C := ⟨17792, 17802, ofPairs rlQ, ipQ⟩) (ex := .exit 0) (rl := rlQ) (vp := []) (fs := fsq) (bs := bq8)
    hb (by decide) rfl (by kernel_rfl) hip vpNil (glNone rfl rfl) (by as_aux_lemma => kernel_rfl) (St.same (VRows.rsame _ _ _) s_) (fun a' w' q_ => ⟨rfl, by rw [bqq8] at q_; exact q_⟩)
theorem gt8 : Tail v8 bE8 bF8 := by
  intro x q g1 g2 B w0 μ a w hb s
  letI : Tab := (TTx (x := x) (q := q) g1 g2)
  have hip : IpOk (TTx (x := x) (q := q) g1 g2) (TTx (x := x) (q := q) g1 g2) ipT := (ipCons (ipN _ rfl rfl) ipNil)
  refine wp_mono (runTo_sound (T := (TTx (x := x) (q := q) g1 g2)) (T' := (TTx (x := x) (q := q) g1 g2)) (K := K_top0) (n := 5000) sp.mixed (@K_top0_ok (TTx (x := x) (q := q) g1 g2)) (C := ⟨17792, 17802, ofPairs rlT, ipT⟩) (ex := .ret) (rl := rlT) (vp := []) (fs := [(10, .ptr 17792 0)]) (bs := bF8)
    hb (by decide) rfl (by kernel_rfl) hip vpNil (glNone rfl rfl) (by as_aux_lemma => kernel_rfl) s) ?_
  rintro e' a' w' ⟨rfl, s'⟩
  exact St.done (.inr rfl) (by kernel_rfl) s'
theorem cr8 : @InOk Tryz.prog (CRo v8 b8) ((RL (x := 8) (q := 104) (s := 0) (d := 0) (o := 0) (by decide) (by decide)).tab) := CR_ok (by decide) (by decide) 8 24 (by kernel_rfl) (by kernel_rfl) gq8 gt8 rfl rfl (by decide) rfl
noncomputable abbrev v12 : AV := vK 39
noncomputable abbrev bE12 : BS := [(14321, 14321, (mbK 39)), (17792, 17792, ansK), (17793, 17793, (.cells 39 true [] (T.ofList 0 .leaf (bs.ot 13))))]
noncomputable abbrev bF12 : BS := [(14321, 14321, (mbbK 39)), (17792, 17792, (aggK 39)), (17793, 17793, (.cells 39 true [] (T.ofList 0 .leaf (bs.ot 13))))]
noncomputable abbrev b12 : BL := [(14321, (mbbK 39)), (17793, (.cells 39 true [] (T.ofList 0 .leaf (bs.ot 13))))]
noncomputable abbrev bq12 : BS := [(14321, 14321, (mbK 39)), (17792, 30000, ansK), (17793, 30354, (.cells 39 true [] (T.ofList 0 .leaf (bs.ot 13))))]
theorem bqq12 : hOf 17802 bq12 = hOf 17802 bE12 := hOf_congr (by kernel_rfl)
theorem gq12 : GoQ 12 36 bE12 := by
  intro x q g1 g2 B w0 μ a w r wd c0 h3 h4 h5 h6 h7 h8 hx1 hx2 e2 hb s_
  have hip : IpOk (TDx (x := x) (r := r) (wd := wd) (c0 := c0) 36 h3 h4 h5 h6 h7 h8 hx1 hx2) (TTx (x := x) (q := q) g1 g2) ipQ := (ipCons (ipN (.i64, r + 3) rfl (show (IntKind.i64, q) = (IntKind.i64, r + 3) from Prod.ext rfl (show (q : Int) = r + 3 by omega))) ipNil)
  refine stepsTo_sound (T := (TDx (x := x) (r := r) (wd := wd) (c0 := c0) 36 h3 h4 h5 h6 h7 h8 hx1 hx2)) (T' := (TTx (x := x) (q := q) g1 g2)) (K := Hand.none) (m := 5000) sp.mixed (@HandOk.none (TDx (x := x) (r := r) (wd := wd) (c0 := c0) 36 h3 h4 h5 h6 h7 h8 hx1 hx2) Tryz.prog) (C := ⟨17792, 17802, ofPairs rlQ, ipQ⟩) (ex := .exit 0) (rl := rlQ) (vp := []) (fs := fsq) (bs := bq12)
    hb (by decide) rfl (by kernel_rfl) hip vpNil (glNone rfl rfl) (by as_aux_lemma => kernel_rfl) (St.same (VRows.rsame _ _ _) s_) (fun a' w' q_ => ⟨rfl, by rw [bqq12] at q_; exact q_⟩)
theorem gt12 : Tail v12 bE12 bF12 := by
  intro x q g1 g2 B w0 μ a w hb s
  letI : Tab := (TTx (x := x) (q := q) g1 g2)
  have hip : IpOk (TTx (x := x) (q := q) g1 g2) (TTx (x := x) (q := q) g1 g2) ipT := (ipCons (ipN _ rfl rfl) ipNil)
  refine wp_mono (runTo_sound (T := (TTx (x := x) (q := q) g1 g2)) (T' := (TTx (x := x) (q := q) g1 g2)) (K := K_top0) (n := 5000) sp.mixed (@K_top0_ok (TTx (x := x) (q := q) g1 g2)) (C := ⟨17792, 17802, ofPairs rlT, ipT⟩) (ex := .ret) (rl := rlT) (vp := []) (fs := [(10, .ptr 17792 0)]) (bs := bF12)
    hb (by decide) rfl (by kernel_rfl) hip vpNil (glNone rfl rfl) (by as_aux_lemma => kernel_rfl) s) ?_
  rintro e' a' w' ⟨rfl, s'⟩
  exact St.done (.inr rfl) (by kernel_rfl) s'
theorem cr12 : @InOk Tryz.prog (CRo v12 b12) ((RL (x := 12) (q := 148) (s := 0) (d := 0) (o := 0) (by decide) (by decide)).tab) := CR_ok (by decide) (by decide) 12 36 (by kernel_rfl) (by kernel_rfl) gq12 gt12 rfl rfl (by decide) rfl
noncomputable abbrev v16 : AV := vK 51
noncomputable abbrev bE16 : BS := [(14321, 14321, (mbK 51)), (17792, 17792, ansK), (17793, 17793, (.cells 51 true [] (T.ofList 0 .leaf (bs.ot 17))))]
noncomputable abbrev bF16 : BS := [(14321, 14321, (mbbK 51)), (17792, 17792, (aggK 51)), (17793, 17793, (.cells 51 true [] (T.ofList 0 .leaf (bs.ot 17))))]
noncomputable abbrev b16 : BL := [(14321, (mbbK 51)), (17793, (.cells 51 true [] (T.ofList 0 .leaf (bs.ot 17))))]
noncomputable abbrev bq16 : BS := [(14321, 14321, (mbK 51)), (17792, 30000, ansK), (17793, 30354, (.cells 51 true [] (T.ofList 0 .leaf (bs.ot 17))))]
theorem bqq16 : hOf 17802 bq16 = hOf 17802 bE16 := hOf_congr (by kernel_rfl)
theorem gq16 : GoQ 16 48 bE16 := by
  intro x q g1 g2 B w0 μ a w r wd c0 h3 h4 h5 h6 h7 h8 hx1 hx2 e2 hb s_
  have hip : IpOk (TDx (x := x) (r := r) (wd := wd) (c0 := c0) 48 h3 h4 h5 h6 h7 h8 hx1 hx2) (TTx (x := x) (q := q) g1 g2) ipQ := (ipCons (ipN (.i64, r + 3) rfl (show (IntKind.i64, q) = (IntKind.i64, r + 3) from Prod.ext rfl (show (q : Int) = r + 3 by omega))) ipNil)
  refine stepsTo_sound (T := (TDx (x := x) (r := r) (wd := wd) (c0 := c0) 48 h3 h4 h5 h6 h7 h8 hx1 hx2)) (T' := (TTx (x := x) (q := q) g1 g2)) (K := Hand.none) (m := 5000) sp.mixed (@HandOk.none (TDx (x := x) (r := r) (wd := wd) (c0 := c0) 48 h3 h4 h5 h6 h7 h8 hx1 hx2) Tryz.prog) (C := ⟨17792, 17802, ofPairs rlQ, ipQ⟩) (ex := .exit 0) (rl := rlQ) (vp := []) (fs := fsq) (bs := bq16)
    hb (by decide) rfl (by kernel_rfl) hip vpNil (glNone rfl rfl) (by as_aux_lemma => kernel_rfl) (St.same (VRows.rsame _ _ _) s_) (fun a' w' q_ => ⟨rfl, by rw [bqq16] at q_; exact q_⟩)
theorem gt16 : Tail v16 bE16 bF16 := by
  intro x q g1 g2 B w0 μ a w hb s
  letI : Tab := (TTx (x := x) (q := q) g1 g2)
  have hip : IpOk (TTx (x := x) (q := q) g1 g2) (TTx (x := x) (q := q) g1 g2) ipT := (ipCons (ipN _ rfl rfl) ipNil)
  refine wp_mono (runTo_sound (T := (TTx (x := x) (q := q) g1 g2)) (T' := (TTx (x := x) (q := q) g1 g2)) (K := K_top0) (n := 5000) sp.mixed (@K_top0_ok (TTx (x := x) (q := q) g1 g2)) (C := ⟨17792, 17802, ofPairs rlT, ipT⟩) (ex := .ret) (rl := rlT) (vp := []) (fs := [(10, .ptr 17792 0)]) (bs := bF16)
    hb (by decide) rfl (by kernel_rfl) hip vpNil (glNone rfl rfl) (by as_aux_lemma => kernel_rfl) s) ?_
  rintro e' a' w' ⟨rfl, s'⟩
  exact St.done (.inr rfl) (by kernel_rfl) s'
theorem cr16 : @InOk Tryz.prog (CRo v16 b16) ((RL (x := 16) (q := 192) (s := 0) (d := 0) (o := 0) (by decide) (by decide)).tab) := CR_ok (by decide) (by decide) 16 48 (by kernel_rfl) (by kernel_rfl) gq16 gt16 rfl rfl (by decide) rfl
noncomputable abbrev v20 : AV := vK 63
noncomputable abbrev bE20 : BS := [(14321, 14321, (mbK 63)), (17792, 17792, ansK), (17793, 17793, (.cells 63 true [] (T.ofList 0 .leaf (bs.ot 21))))]
noncomputable abbrev bF20 : BS := [(14321, 14321, (mbbK 63)), (17792, 17792, (aggK 63)), (17793, 17793, (.cells 63 true [] (T.ofList 0 .leaf (bs.ot 21))))]
noncomputable abbrev b20 : BL := [(14321, (mbbK 63)), (17793, (.cells 63 true [] (T.ofList 0 .leaf (bs.ot 21))))]
noncomputable abbrev bq20 : BS := [(14321, 14321, (mbK 63)), (17792, 30000, ansK), (17793, 30354, (.cells 63 true [] (T.ofList 0 .leaf (bs.ot 21))))]
theorem bqq20 : hOf 17802 bq20 = hOf 17802 bE20 := hOf_congr (by kernel_rfl)
theorem gq20 : GoQ 20 60 bE20 := by
  intro x q g1 g2 B w0 μ a w r wd c0 h3 h4 h5 h6 h7 h8 hx1 hx2 e2 hb s_
  have hip : IpOk (TDx (x := x) (r := r) (wd := wd) (c0 := c0) 60 h3 h4 h5 h6 h7 h8 hx1 hx2) (TTx (x := x) (q := q) g1 g2) ipQ := (ipCons (ipN (.i64, r + 3) rfl (show (IntKind.i64, q) = (IntKind.i64, r + 3) from Prod.ext rfl (show (q : Int) = r + 3 by omega))) ipNil)
  refine stepsTo_sound (T := (TDx (x := x) (r := r) (wd := wd) (c0 := c0) 60 h3 h4 h5 h6 h7 h8 hx1 hx2)) (T' := (TTx (x := x) (q := q) g1 g2)) (K := Hand.none) (m := 5000) sp.mixed (@HandOk.none (TDx (x := x) (r := r) (wd := wd) (c0 := c0) 60 h3 h4 h5 h6 h7 h8 hx1 hx2) Tryz.prog) (C := ⟨17792, 17802, ofPairs rlQ, ipQ⟩) (ex := .exit 0) (rl := rlQ) (vp := []) (fs := fsq) (bs := bq20)
    hb (by decide) rfl (by kernel_rfl) hip vpNil (glNone rfl rfl) (by as_aux_lemma => kernel_rfl) (St.same (VRows.rsame _ _ _) s_) (fun a' w' q_ => ⟨rfl, by rw [bqq20] at q_; exact q_⟩)
theorem gt20 : Tail v20 bE20 bF20 := by
  intro x q g1 g2 B w0 μ a w hb s
  letI : Tab := (TTx (x := x) (q := q) g1 g2)
  have hip : IpOk (TTx (x := x) (q := q) g1 g2) (TTx (x := x) (q := q) g1 g2) ipT := (ipCons (ipN _ rfl rfl) ipNil)
  refine wp_mono (runTo_sound (T := (TTx (x := x) (q := q) g1 g2)) (T' := (TTx (x := x) (q := q) g1 g2)) (K := K_top0) (n := 5000) sp.mixed (@K_top0_ok (TTx (x := x) (q := q) g1 g2)) (C := ⟨17792, 17802, ofPairs rlT, ipT⟩) (ex := .ret) (rl := rlT) (vp := []) (fs := [(10, .ptr 17792 0)]) (bs := bF20)
    hb (by decide) rfl (by kernel_rfl) hip vpNil (glNone rfl rfl) (by as_aux_lemma => kernel_rfl) s) ?_
  rintro e' a' w' ⟨rfl, s'⟩
  exact St.done (.inr rfl) (by kernel_rfl) s'
theorem cr20 : @InOk Tryz.prog (CRo v20 b20) ((RL (x := 20) (q := 236) (s := 0) (d := 0) (o := 0) (by decide) (by decide)).tab) := CR_ok (by decide) (by decide) 20 60 (by kernel_rfl) (by kernel_rfl) gq20 gt20 rfl rfl (by decide) rfl
noncomputable abbrev v24 : AV := vK 75
noncomputable abbrev bE24 : BS := [(14321, 14321, (mbK 75)), (17792, 17792, ansK), (17793, 17793, (.cells 75 true [] (T.ofList 0 .leaf (bs.ot 25))))]
noncomputable abbrev bF24 : BS := [(14321, 14321, (mbbK 75)), (17792, 17792, (aggK 75)), (17793, 17793, (.cells 75 true [] (T.ofList 0 .leaf (bs.ot 25))))]
noncomputable abbrev b24 : BL := [(14321, (mbbK 75)), (17793, (.cells 75 true [] (T.ofList 0 .leaf (bs.ot 25))))]
noncomputable abbrev bq24 : BS := [(14321, 14321, (mbK 75)), (17792, 30000, ansK), (17793, 30354, (.cells 75 true [] (T.ofList 0 .leaf (bs.ot 25))))]
theorem bqq24 : hOf 17802 bq24 = hOf 17802 bE24 := hOf_congr (by kernel_rfl)
theorem gq24 : GoQ 24 72 bE24 := by
  intro x q g1 g2 B w0 μ a w r wd c0 h3 h4 h5 h6 h7 h8 hx1 hx2 e2 hb s_
  have hip : IpOk (TDx (x := x) (r := r) (wd := wd) (c0 := c0) 72 h3 h4 h5 h6 h7 h8 hx1 hx2) (TTx (x := x) (q := q) g1 g2) ipQ := (ipCons (ipN (.i64, r + 3) rfl (show (IntKind.i64, q) = (IntKind.i64, r + 3) from Prod.ext rfl (show (q : Int) = r + 3 by omega))) ipNil)
  refine stepsTo_sound (T := (TDx (x := x) (r := r) (wd := wd) (c0 := c0) 72 h3 h4 h5 h6 h7 h8 hx1 hx2)) (T' := (TTx (x := x) (q := q) g1 g2)) (K := Hand.none) (m := 5000) sp.mixed (@HandOk.none (TDx (x := x) (r := r) (wd := wd) (c0 := c0) 72 h3 h4 h5 h6 h7 h8 hx1 hx2) Tryz.prog) (C := ⟨17792, 17802, ofPairs rlQ, ipQ⟩) (ex := .exit 0) (rl := rlQ) (vp := []) (fs := fsq) (bs := bq24)
    hb (by decide) rfl (by kernel_rfl) hip vpNil (glNone rfl rfl) (by as_aux_lemma => kernel_rfl) (St.same (VRows.rsame _ _ _) s_) (fun a' w' q_ => ⟨rfl, by rw [bqq24] at q_; exact q_⟩)
theorem gt24 : Tail v24 bE24 bF24 := by
  intro x q g1 g2 B w0 μ a w hb s
  letI : Tab := (TTx (x := x) (q := q) g1 g2)
  have hip : IpOk (TTx (x := x) (q := q) g1 g2) (TTx (x := x) (q := q) g1 g2) ipT := (ipCons (ipN _ rfl rfl) ipNil)
  refine wp_mono (runTo_sound (T := (TTx (x := x) (q := q) g1 g2)) (T' := (TTx (x := x) (q := q) g1 g2)) (K := K_top0) (n := 5000) sp.mixed (@K_top0_ok (TTx (x := x) (q := q) g1 g2)) (C := ⟨17792, 17802, ofPairs rlT, ipT⟩) (ex := .ret) (rl := rlT) (vp := []) (fs := [(10, .ptr 17792 0)]) (bs := bF24)
    hb (by decide) rfl (by kernel_rfl) hip vpNil (glNone rfl rfl) (by as_aux_lemma => kernel_rfl) s) ?_
  rintro e' a' w' ⟨rfl, s'⟩
  exact St.done (.inr rfl) (by kernel_rfl) s'
theorem cr24 : @InOk Tryz.prog (CRo v24 b24) ((RL (x := 24) (q := 280) (s := 0) (d := 0) (o := 0) (by decide) (by decide)).tab) := CR_ok (by decide) (by decide) 24 72 (by kernel_rfl) (by kernel_rfl) gq24 gt24 rfl rfl (by decide) rfl
noncomputable abbrev v28 : AV := vK 87
noncomputable abbrev bE28 : BS := [(14321, 14321, (mbK 87)), (17792, 17792, ansK), (17793, 17793, (.cells 87 true [] (T.ofList 0 .leaf (bs.ot 29))))]
noncomputable abbrev bF28 : BS := [(14321, 14321, (mbbK 87)), (17792, 17792, (aggK 87)), (17793, 17793, (.cells 87 true [] (T.ofList 0 .leaf (bs.ot 29))))]
noncomputable abbrev b28 : BL := [(14321, (mbbK 87)), (17793, (.cells 87 true [] (T.ofList 0 .leaf (bs.ot 29))))]
noncomputable abbrev bq28 : BS := [(14321, 14321, (mbK 87)), (17792, 30000, ansK), (17793, 30354, (.cells 87 true [] (T.ofList 0 .leaf (bs.ot 29))))]
theorem bqq28 : hOf 17802 bq28 = hOf 17802 bE28 := hOf_congr (by kernel_rfl)
theorem gq28 : GoQ 28 84 bE28 := by
  intro x q g1 g2 B w0 μ a w r wd c0 h3 h4 h5 h6 h7 h8 hx1 hx2 e2 hb s_
  have hip : IpOk (TDx (x := x) (r := r) (wd := wd) (c0 := c0) 84 h3 h4 h5 h6 h7 h8 hx1 hx2) (TTx (x := x) (q := q) g1 g2) ipQ := (ipCons (ipN (.i64, r + 3) rfl (show (IntKind.i64, q) = (IntKind.i64, r + 3) from Prod.ext rfl (show (q : Int) = r + 3 by omega))) ipNil)
  refine stepsTo_sound (T := (TDx (x := x) (r := r) (wd := wd) (c0 := c0) 84 h3 h4 h5 h6 h7 h8 hx1 hx2)) (T' := (TTx (x := x) (q := q) g1 g2)) (K := Hand.none) (m := 5000) sp.mixed (@HandOk.none (TDx (x := x) (r := r) (wd := wd) (c0 := c0) 84 h3 h4 h5 h6 h7 h8 hx1 hx2) Tryz.prog) (C := ⟨17792, 17802, ofPairs rlQ, ipQ⟩) (ex := .exit 0) (rl := rlQ) (vp := []) (fs := fsq) (bs := bq28)
    hb (by decide) rfl (by kernel_rfl) hip vpNil (glNone rfl rfl) (by as_aux_lemma => kernel_rfl) (St.same (VRows.rsame _ _ _) s_) (fun a' w' q_ => ⟨rfl, by rw [bqq28] at q_; exact q_⟩)
theorem gt28 : Tail v28 bE28 bF28 := by
  intro x q g1 g2 B w0 μ a w hb s
  letI : Tab := (TTx (x := x) (q := q) g1 g2)
  have hip : IpOk (TTx (x := x) (q := q) g1 g2) (TTx (x := x) (q := q) g1 g2) ipT := (ipCons (ipN _ rfl rfl) ipNil)
  refine wp_mono (runTo_sound (T := (TTx (x := x) (q := q) g1 g2)) (T' := (TTx (x := x) (q := q) g1 g2)) (K := K_top0) (n := 5000) sp.mixed (@K_top0_ok (TTx (x := x) (q := q) g1 g2)) (C := ⟨17792, 17802, ofPairs rlT, ipT⟩) (ex := .ret) (rl := rlT) (vp := []) (fs := [(10, .ptr 17792 0)]) (bs := bF28)
    hb (by decide) rfl (by kernel_rfl) hip vpNil (glNone rfl rfl) (by as_aux_lemma => kernel_rfl) s) ?_
  rintro e' a' w' ⟨rfl, s'⟩
  exact St.done (.inr rfl) (by kernel_rfl) s'
theorem cr28 : @InOk Tryz.prog (CRo v28 b28) ((RL (x := 28) (q := 324) (s := 0) (d := 0) (o := 0) (by decide) (by decide)).tab) := CR_ok (by decide) (by decide) 28 84 (by kernel_rfl) (by kernel_rfl) gq28 gt28 rfl rfl (by decide) rfl
noncomputable abbrev v32 : AV := vK 99
noncomputable abbrev bE32 : BS := [(14321, 14321, (mbK 99)), (17792, 17792, ansK), (17793, 17793, (.cells 99 true [] (T.ofList 0 .leaf (bs.ot 33))))]
noncomputable abbrev bF32 : BS := [(14321, 14321, (mbbK 99)), (17792, 17792, (aggK 99)), (17793, 17793, (.cells 99 true [] (T.ofList 0 .leaf (bs.ot 33))))]
noncomputable abbrev b32 : BL := [(14321, (mbbK 99)), (17793, (.cells 99 true [] (T.ofList 0 .leaf (bs.ot 33))))]
noncomputable abbrev bq32 : BS := [(14321, 14321, (mbK 99)), (17792, 30000, ansK), (17793, 30354, (.cells 99 true [] (T.ofList 0 .leaf (bs.ot 33))))]
theorem bqq32 : hOf 17802 bq32 = hOf 17802 bE32 := hOf_congr (by kernel_rfl)
theorem gq32 : GoQ 32 96 bE32 := by
  intro x q g1 g2 B w0 μ a w r wd c0 h3 h4 h5 h6 h7 h8 hx1 hx2 e2 hb s_
  have hip : IpOk (TDx (x := x) (r := r) (wd := wd) (c0 := c0) 96 h3 h4 h5 h6 h7 h8 hx1 hx2) (TTx (x := x) (q := q) g1 g2) ipQ := (ipCons (ipN (.i64, r + 3) rfl (show (IntKind.i64, q) = (IntKind.i64, r + 3) from Prod.ext rfl (show (q : Int) = r + 3 by omega))) ipNil)
  refine stepsTo_sound (T := (TDx (x := x) (r := r) (wd := wd) (c0 := c0) 96 h3 h4 h5 h6 h7 h8 hx1 hx2)) (T' := (TTx (x := x) (q := q) g1 g2)) (K := Hand.none) (m := 5000) sp.mixed (@HandOk.none (TDx (x := x) (r := r) (wd := wd) (c0 := c0) 96 h3 h4 h5 h6 h7 h8 hx1 hx2) Tryz.prog) (C := ⟨17792, 17802, ofPairs rlQ, ipQ⟩) (ex := .exit 0) (rl := rlQ) (vp := []) (fs := fsq) (bs := bq32)
    hb (by decide) rfl (by kernel_rfl) hip vpNil (glNone rfl rfl) (by as_aux_lemma => kernel_rfl) (St.same (VRows.rsame _ _ _) s_) (fun a' w' q_ => ⟨rfl, by rw [bqq32] at q_; exact q_⟩)
theorem gt32 : Tail v32 bE32 bF32 := by
  intro x q g1 g2 B w0 μ a w hb s
  letI : Tab := (TTx (x := x) (q := q) g1 g2)
  have hip : IpOk (TTx (x := x) (q := q) g1 g2) (TTx (x := x) (q := q) g1 g2) ipT := (ipCons (ipN _ rfl rfl) ipNil)
  refine wp_mono (runTo_sound (T := (TTx (x := x) (q := q) g1 g2)) (T' := (TTx (x := x) (q := q) g1 g2)) (K := K_top0) (n := 5000) sp.mixed (@K_top0_ok (TTx (x := x) (q := q) g1 g2)) (C := ⟨17792, 17802, ofPairs rlT, ipT⟩) (ex := .ret) (rl := rlT) (vp := []) (fs := [(10, .ptr 17792 0)]) (bs := bF32)
    hb (by decide) rfl (by kernel_rfl) hip vpNil (glNone rfl rfl) (by as_aux_lemma => kernel_rfl) s) ?_
  rintro e' a' w' ⟨rfl, s'⟩
  exact St.done (.inr rfl) (by kernel_rfl) s'
theorem cr32 : @InOk Tryz.prog (CRo v32 b32) ((RL (x := 32) (q := 368) (s := 0) (d := 0) (o := 0) (by decide) (by decide)).tab) := CR_ok (by decide) (by decide) 32 96 (by kernel_rfl) (by kernel_rfl) gq32 gt32 rfl rfl (by decide) rfl
noncomputable abbrev v36 : AV := vK 111
noncomputable abbrev bE36 : BS := [(14321, 14321, (mbK 111)), (17792, 17792, ansK), (17793, 17793, (.cells 111 true [] (T.ofList 0 .leaf (bs.ot 37))))]
noncomputable abbrev bF36 : BS := [(14321, 14321, (mbbK 111)), (17792, 17792, (aggK 111)), (17793, 17793, (.cells 111 true [] (T.ofList 0 .leaf (bs.ot 37))))]
noncomputable abbrev b36 : BL := [(14321, (mbbK 111)), (17793, (.cells 111 true [] (T.ofList 0 .leaf (bs.ot 37))))]
noncomputable abbrev bq36 : BS := [(14321, 14321, (mbK 111)), (17792, 30000, ansK), (17793, 30354, (.cells 111 true [] (T.ofList 0 .leaf (bs.ot 37))))]
theorem bqq36 : hOf 17802 bq36 = hOf 17802 bE36 := hOf_congr (by kernel_rfl)
theorem gq36 : GoQ 36 108 bE36 := by
  intro x q g1 g2 B w0 μ a w r wd c0 h3 h4 h5 h6 h7 h8 hx1 hx2 e2 hb s_
  have hip : IpOk (TDx (x := x) (r := r) (wd := wd) (c0 := c0) 108 h3 h4 h5 h6 h7 h8 hx1 hx2) (TTx (x := x) (q := q) g1 g2) ipQ := (ipCons (ipN (.i64, r + 3) rfl (show (IntKind.i64, q) = (IntKind.i64, r + 3) from Prod.ext rfl (show (q : Int) = r + 3 by omega))) ipNil)
  refine stepsTo_sound (T := (TDx (x := x) (r := r) (wd := wd) (c0 := c0) 108 h3 h4 h5 h6 h7 h8 hx1 hx2)) (T' := (TTx (x := x) (q := q) g1 g2)) (K := Hand.none) (m := 5000) sp.mixed (@HandOk.none (TDx (x := x) (r := r) (wd := wd) (c0 := c0) 108 h3 h4 h5 h6 h7 h8 hx1 hx2) Tryz.prog) (C := ⟨17792, 17802, ofPairs rlQ, ipQ⟩) (ex := .exit 0) (rl := rlQ) (vp := []) (fs := fsq) (bs := bq36)
    hb (by decide) rfl (by kernel_rfl) hip vpNil (glNone rfl rfl) (by as_aux_lemma => kernel_rfl) (St.same (VRows.rsame _ _ _) s_) (fun a' w' q_ => ⟨rfl, by rw [bqq36] at q_; exact q_⟩)
theorem gt36 : Tail v36 bE36 bF36 := by
  intro x q g1 g2 B w0 μ a w hb s
  letI : Tab := (TTx (x := x) (q := q) g1 g2)
  have hip : IpOk (TTx (x := x) (q := q) g1 g2) (TTx (x := x) (q := q) g1 g2) ipT := (ipCons (ipN _ rfl rfl) ipNil)
  refine wp_mono (runTo_sound (T := (TTx (x := x) (q := q) g1 g2)) (T' := (TTx (x := x) (q := q) g1 g2)) (K := K_top0) (n := 5000) sp.mixed (@K_top0_ok (TTx (x := x) (q := q) g1 g2)) (C := ⟨17792, 17802, ofPairs rlT, ipT⟩) (ex := .ret) (rl := rlT) (vp := []) (fs := [(10, .ptr 17792 0)]) (bs := bF36)
    hb (by decide) rfl (by kernel_rfl) hip vpNil (glNone rfl rfl) (by as_aux_lemma => kernel_rfl) s) ?_
  rintro e' a' w' ⟨rfl, s'⟩
  exact St.done (.inr rfl) (by kernel_rfl) s'
theorem cr36 : @InOk Tryz.prog (CRo v36 b36) ((RL (x := 36) (q := 412) (s := 0) (d := 0) (o := 0) (by decide) (by decide)).tab) := CR_ok (by decide) (by decide) 36 108 (by kernel_rfl) (by kernel_rfl) gq36 gt36 rfl rfl (by decide) rfl
end Go.Proofs.YtbgkinjicnnkiaaGreatDoor.sc
