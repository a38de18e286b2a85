/-
  The end of the run, for each number.
-/
import Derived.Test.YtbgkinjicnnkiaaGreatDoorSNN
import Derived.Test.YtbgkinjicnnkiaaGreatDoorSCA
set_option linter.unusedSectionVars false
set_option linter.unusedVariables false
set_option maxRecDepth 1000000
set_option maxHeartbeats 0
namespace Go.Proofs.YtbgkinjicnnkiaaGreatDoor.sc
open Go.X Go.RowKit Go.Proofs.YtbgkinjicnnkiaaGreatDoor.sq Go.Proofs.YtbgkinjicnnkiaaGreatDoor
noncomputable abbrev v2 : AV := vK 9
noncomputable abbrev bE2 : BS := [(14321, 14321, (mbK 9)), (17792, 17792, ansK), (17793, 17793, (.cells 9 true [] (T.ofList 0 .leaf (bs.ot 3))))]
noncomputable abbrev bF2 : BS := [(14321, 14321, (mbbK 9)), (17792, 17792, (aggK 9)), (17793, 17793, (.cells 9 true [] (T.ofList 0 .leaf (bs.ot 3))))]
noncomputable abbrev b2 : BL := [(14321, (mbbK 9)), (17793, (.cells 9 true [] (T.ofList 0 .leaf (bs.ot 3))))]
noncomputable abbrev bq2 : BS := [(14321, 14321, (mbK 9)), (17792, 30000, ansK), (17793, 30354, (.cells 9 true [] (T.ofList 0 .leaf (bs.ot 3))))]
theorem bqq2 : hOf 17802 bq2 = hOf 17802 bE2 := hOf_congr (by kernel_rfl)
theorem gq2 : GoQ 2 6 bE2 := by
  intro x q g1 g2 B w0 μ a w r wd c0 h3 h4 h5 h6 h7 h8 hx1 hx2 e2 hb s_
  have hip : IpOk (TDx (x := x) (r := r) (wd := wd) (c0 := c0) 6 h3 h4 h5 h6 h7 h8 hx1 hx2) (TTx (x := x) (q := q) g1 g2) ipQ := (ipCons (ipN (.i64, r + 3) rfl (show (IntKind.i64, q) = (IntKind.i64, r + 3) from Prod.ext rfl (show (q : Int) = r + 3 by omega))) ipNil)
  refine stepsTo_sound (T := (TDx (x := x) (r := r) (wd := wd) (c0 := c0) 6 h3 h4 h5 h6 h7 h8 hx1 hx2)) (T' := (TTx (x := x) (q := q) g1 g2)) (K := Hand.none) (m := 5000) sp.mixed (@HandOk.none (TDx (x := x) (r := r) (wd := wd) (c0 := c0) 6 h3 h4 h5 h6 h7 h8 hx1 hx2) Tryz.prog) (C := ⟨17792, 17802, ofPairs rlQ, ipQ⟩) (ex := .exit 0) (rl := rlQ) (vp := []) (fs := fsq) (bs := bq2)
    hb (by decide) rfl (by kernel_rfl) hip vpNil (glNone rfl rfl) (by as_aux_lemma => kernel_rfl) (St.same (VRows.rsame _ _ _) s_) (fun a' w' q_ => ⟨rfl, by rw [bqq2] at q_; exact q_⟩)
theorem gt2 : Tail v2 bE2 bF2 := by
  intro x q g1 g2 B w0 μ a w hb s
  letI : Tab := (TTx (x := x) (q := q) g1 g2)
  have hip : IpOk (TTx (x := x) (q := q) g1 g2) (TTx (x := x) (q := q) g1 g2) ipT := (ipCons (ipN _ rfl rfl) ipNil)
  refine wp_mono (runTo_sound (T := (TTx (x := x) (q := q) g1 g2)) (T' := (TTx (x := x) (q := q) g1 g2)) (K := K_top0) (n := 5000) sp.mixed (@K_top0_ok (TTx (x := x) (q := q) g1 g2)) (C := ⟨17792, 17802, ofPairs rlT, ipT⟩) (ex := .ret) (rl := rlT) (vp := []) (fs := [(10, .ptr 17792 0)]) (bs := bF2)
    hb (by decide) rfl (by kernel_rfl) hip vpNil (glNone rfl rfl) (by as_aux_lemma => kernel_rfl) s) ?_
  rintro e' a' w' ⟨rfl, s'⟩
  exact St.done (.inr rfl) (by kernel_rfl) s'
theorem cr2 : @InOk Tryz.prog (CRo v2 b2) ((RL (x := 2) (q := 38) (s := 0) (d := 0) (o := 0) (by decide) (by decide)).tab) := CR_ok (by decide) (by decide) 2 6 (by kernel_rfl) (by kernel_rfl) gq2 gt2 rfl rfl (by decide) rfl
noncomputable abbrev v6 : AV := vK 21
noncomputable abbrev bE6 : BS := [(14321, 14321, (mbK 21)), (17792, 17792, ansK), (17793, 17793, (.cells 21 true [] (T.ofList 0 .leaf (bs.ot 7))))]
noncomputable abbrev bF6 : BS := [(14321, 14321, (mbbK 21)), (17792, 17792, (aggK 21)), (17793, 17793, (.cells 21 true [] (T.ofList 0 .leaf (bs.ot 7))))]
noncomputable abbrev b6 : BL := [(14321, (mbbK 21)), (17793, (.cells 21 true [] (T.ofList 0 .leaf (bs.ot 7))))]
noncomputable abbrev bq6 : BS := [(14321, 14321, (mbK 21)), (17792, 30000, ansK), (17793, 30354, (.cells 21 true [] (T.ofList 0 .leaf (bs.ot 7))))]
theorem bqq6 : hOf 17802 bq6 = hOf 17802 bE6 := hOf_congr (by kernel_rfl)
theorem gq6 : GoQ 6 18 bE6 := by
  intro x q g1 g2 B w0 μ a w r wd c0 h3 h4 h5 h6 h7 h8 hx1 hx2 e2 hb s_
  have hip : IpOk (TDx (x := x) (r := r) (wd := wd) (c0 := c0) 18 h3 h4 h5 h6 h7 h8 hx1 hx2) (TTx (x := x) (q := q) g1 g2) ipQ := (ipCons (ipN (.i64, r + 3) rfl (show (IntKind.i64, q) = (IntKind.i64, r + 3) from Prod.ext rfl (show (q : Int) = r + 3 by omega))) ipNil)
  refine stepsTo_sound (T := (TDx (x := x) (r := r) (wd := wd) (c0 := c0) 18 h3 h4 h5 h6 h7 h8 hx1 hx2)) (T' := (TTx (x := x) (q := q) g1 g2)) (K := Hand.none) (m := 5000) sp.mixed (@HandOk.none (TDx (x := x) (r := r) (wd := wd) (c0 := c0) 18 h3 h4 h5 h6 h7 h8 hx1 hx2) Tryz.prog) (C := ⟨17792, 17802, ofPairs rlQ, ipQ⟩) (ex := .exit 0) (rl := rlQ) (vp := []) (fs := fsq) (bs := bq6)
    hb (by decide) rfl (by kernel_rfl) hip vpNil (glNone rfl rfl) (by as_aux_lemma => kernel_rfl) (St.same (VRows.rsame _ _ _) s_) (fun a' w' q_ => ⟨rfl, by rw [bqq6] at q_; exact q_⟩)
theorem gt6 : Tail v6 bE6 bF6 := by
  intro x q g1 g2 B w0 μ a w hb s
  letI : Tab := (TTx (x := x) (q := q) g1 g2)
  have hip : IpOk (TTx (x := x) (q := q) g1 g2) (TTx (x := x) (q := q) g1 g2) ipT := (ipCons (ipN _ rfl rfl) ipNil)
  refine wp_mono (runTo_sound (T := (TTx (x := x) (q := q) g1 g2)) (T' := (TTx (x := x) (q := q) g1 g2)) (K := K_top0) (n := 5000) sp.mixed (@K_top0_ok (TTx (x := x) (q := q) g1 g2)) (C := ⟨17792, 17802, ofPairs rlT, ipT⟩) (ex := .ret) (rl := rlT) (vp := []) (fs := [(10, .ptr 17792 0)]) (bs := bF6)
    hb (by decide) rfl (by kernel_rfl) hip vpNil (glNone rfl rfl) (by as_aux_lemma => kernel_rfl) s) ?_
  rintro e' a' w' ⟨rfl, s'⟩
  exact St.done (.inr rfl) (by kernel_rfl) s'
theorem cr6 : @InOk Tryz.prog (CRo v6 b6) ((RL (x := 6) (q := 82) (s := 0) (d := 0) (o := 0) (by decide) (by decide)).tab) := CR_ok (by decide) (by decide) 6 18 (by kernel_rfl) (by kernel_rfl) gq6 gt6 rfl rfl (by decide) rfl
noncomputable abbrev v10 : AV := vK 33
noncomputable abbrev bE10 : BS := [(14321, 14321, (mbK 33)), (17792, 17792, ansK), (17793, 17793, (.cells 33 true [] (T.ofList 0 .leaf (bs.ot 11))))]
noncomputable abbrev bF10 : BS := [(14321, 14321, (mbbK 33)), (17792, 17792, (aggK 33)), (17793, 17793, (.cells 33 true [] (T.ofList 0 .leaf (bs.ot 11))))]
noncomputable abbrev b10 : BL := [(14321, (mbbK 33)), (17793, (.cells 33 true [] (T.ofList 0 .leaf (bs.ot 11))))]
noncomputable abbrev bq10 : BS := [(14321, 14321, (mbK 33)), (17792, 30000, ansK), (17793, 30354, (.cells 33 true [] (T.ofList 0 .leaf (bs.ot 11))))]
theorem bqq10 : hOf 17802 bq10 = hOf 17802 bE10 := hOf_congr (by kernel_rfl)
theorem gq10 : GoQ 10 30 bE10 := by
  intro x q g1 g2 B w0 μ a w r wd c0 h3 h4 h5 h6 h7 h8 hx1 hx2 e2 hb s_
  have hip : IpOk (TDx (x := x) (r := r) (wd := wd) (c0 := c0) 30 h3 h4 h5 h6 h7 h8 hx1 hx2) (TTx (x := x) (q := q) g1 g2) ipQ := (ipCons (ipN (.i64, r + 3) rfl (show (IntKind.i64, q) = (IntKind.i64, r + 3) from Prod.ext rfl (show (q : Int) = r + 3 by omega))) ipNil)
  refine stepsTo_sound (T := (TDx (x := x) (r := r) (wd := wd) (c0 := c0) 30 h3 h4 h5 h6 h7 h8 hx1 hx2)) (T' := (TTx (x := x) (q := q) g1 g2)) (K := Hand.none) (m := 5000) sp.mixed (@HandOk.none (TDx (x := x) (r := r) (wd := wd) (c0 := c0) 30 h3 h4 h5 h6 h7 h8 hx1 hx2) Tryz.prog) (C := ⟨17792, 17802, ofPairs rlQ, ipQ⟩) (ex := .exit 0) (rl := rlQ) (vp := []) (fs := fsq) (bs := bq10)
    hb (by decide) rfl (by kernel_rfl) hip vpNil (glNone rfl rfl) (by as_aux_lemma => kernel_rfl) (St.same (VRows.rsame _ _ _) s_) (fun a' w' q_ => ⟨rfl, by rw [bqq10] at q_; exact q_⟩)
theorem gt10 : Tail v10 bE10 bF10 := by
  intro x q g1 g2 B w0 μ a w hb s
  letI : Tab := (TTx (x := x) (q := q) g1 g2)
  have hip : IpOk (TTx (x := x) (q := q) g1 g2) (TTx (x := x) (q := q) g1 g2) ipT := (ipCons (ipN _ rfl rfl) ipNil)
  refine wp_mono (runTo_sound (T := (TTx (x := x) (q := q) g1 g2)) (T' := (TTx (x := x) (q := q) g1 g2)) (K := K_top0) (n := 5000) sp.mixed (@K_top0_ok (TTx (x := x) (q := q) g1 g2)) (C := ⟨17792, 17802, ofPairs rlT, ipT⟩) (ex := .ret) (rl := rlT) (vp := []) (fs := [(10, .ptr 17792 0)]) (bs := bF10)
    hb (by decide) rfl (by kernel_rfl) hip vpNil (glNone rfl rfl) (by as_aux_lemma => kernel_rfl) s) ?_
  rintro e' a' w' ⟨rfl, s'⟩
  exact St.done (.inr rfl) (by kernel_rfl) s'
theorem cr10 : @InOk Tryz.prog (CRo v10 b10) ((RL (x := 10) (q := 126) (s := 0) (d := 0) (o := 0) (by decide) (by decide)).tab) := CR_ok (by decide) (by decide) 10 30 (by kernel_rfl) (by kernel_rfl) gq10 gt10 rfl rfl (by decide) rfl
noncomputable abbrev v14 : AV := vK 45
noncomputable abbrev bE14 : BS := [(14321, 14321, (mbK 45)), (17792, 17792, ansK), (17793, 17793, (.cells 45 true [] (T.ofList 0 .leaf (bs.ot 15))))]
noncomputable abbrev bF14 : BS := [(14321, 14321, (mbbK 45)), (17792, 17792, (aggK 45)), (17793, 17793, (.cells 45 true [] (T.ofList 0 .leaf (bs.ot 15))))]
noncomputable abbrev b14 : BL := [(14321, (mbbK 45)), (17793, (.cells 45 true [] (T.ofList 0 .leaf (bs.ot 15))))]
noncomputable abbrev bq14 : BS := [(14321, 14321, (mbK 45)), (17792, 30000, ansK), (17793, 30354, (.cells 45 true [] (T.ofList 0 .leaf (bs.ot 15))))]
theorem bqq14 : hOf 17802 bq14 = hOf 17802 bE14 := hOf_congr (by kernel_rfl)
theorem gq14 : GoQ 14 42 bE14 := by
  intro x q g1 g2 B w0 μ a w r wd c0 h3 h4 h5 h6 h7 h8 hx1 hx2 e2 hb s_
  have hip : IpOk (TDx (x := x) (r := r) (wd := wd) (c0 := c0) 42 h3 h4 h5 h6 h7 h8 hx1 hx2) (TTx (x := x) (q := q) g1 g2) ipQ := (ipCons (ipN (.i64, r + 3) rfl (show (IntKind.i64, q) = (IntKind.i64, r + 3) from Prod.ext rfl (show (q : Int) = r + 3 by omega))) ipNil)
  refine stepsTo_sound (T := (TDx (x := x) (r := r) (wd := wd) (c0 := c0) 42 h3 h4 h5 h6 h7 h8 hx1 hx2)) (T' := (TTx (x := x) (q := q) g1 g2)) (K := Hand.none) (m := 5000) sp.mixed (@HandOk.none (TDx (x := x) (r := r) (wd := wd) (c0 := c0) 42 h3 h4 h5 h6 h7 h8 hx1 hx2) Tryz.prog) (C := ⟨17792, 17802, ofPairs rlQ, ipQ⟩) (ex := .exit 0) (rl := rlQ) (vp := []) (fs := fsq) (bs := bq14)
    hb (by decide) rfl (by kernel_rfl) hip vpNil (glNone rfl rfl) (by as_aux_lemma => kernel_rfl) (St.same (VRows.rsame _ _ _) s_) (fun a' w' q_ => ⟨rfl, by rw [bqq14] at q_; exact q_⟩)
theorem gt14 : Tail v14 bE14 bF14 := by
  intro x q g1 g2 B w0 μ a w hb s
  letI : Tab := (TTx (x := x) (q := q) g1 g2)
  have hip : IpOk (TTx (x := x) (q := q) g1 g2) (TTx (x := x) (q := q) g1 g2) ipT := (ipCons (ipN _ rfl rfl) ipNil)
  refine wp_mono (runTo_sound (T := (TTx (x := x) (q := q) g1 g2)) (T' := (TTx (x := x) (q := q) g1 g2)) (K := K_top0) (n := 5000) sp.mixed (@K_top0_ok (TTx (x := x) (q := q) g1 g2)) (C := ⟨17792, 17802, ofPairs rlT, ipT⟩) (ex := .ret) (rl := rlT) (vp := []) (fs := [(10, .ptr 17792 0)]) (bs := bF14)
    hb (by decide) rfl (by kernel_rfl) hip vpNil (glNone rfl rfl) (by as_aux_lemma => kernel_rfl) s) ?_
  rintro e' a' w' ⟨rfl, s'⟩
  exact St.done (.inr rfl) (by kernel_rfl) s'
theorem cr14 : @InOk Tryz.prog (CRo v14 b14) ((RL (x := 14) (q := 170) (s := 0) (d := 0) (o := 0) (by decide) (by decide)).tab) := CR_ok (by decide) (by decide) 14 42 (by kernel_rfl) (by kernel_rfl) gq14 gt14 rfl rfl (by decide) rfl
noncomputable abbrev v18 : AV := vK 57
noncomputable abbrev bE18 : BS := [(14321, 14321, (mbK 57)), (17792, 17792, ansK), (17793, 17793, (.cells 57 true [] (T.ofList 0 .leaf (bs.ot 19))))]
noncomputable abbrev bF18 : BS := [(14321, 14321, (mbbK 57)), (17792, 17792, (aggK 57)), (17793, 17793, (.cells 57 true [] (T.ofList 0 .leaf (bs.ot 19))))]
noncomputable abbrev b18 : BL := [(14321, (mbbK 57)), (17793, (.cells 57 true [] (T.ofList 0 .leaf (bs.ot 19))))]
noncomputable abbrev bq18 : BS := [(14321, 14321, (mbK 57)), (17792, 30000, ansK), (17793, 30354, (.cells 57 true [] (T.ofList 0 .leaf (bs.ot 19))))]
theorem bqq18 : hOf 17802 bq18 = hOf 17802 bE18 := hOf_congr (by kernel_rfl)
theorem gq18 : GoQ 18 54 bE18 := by
  intro x q g1 g2 B w0 μ a w r wd c0 h3 h4 h5 h6 h7 h8 hx1 hx2 e2 hb s_
  have hip : IpOk (TDx (x := x) (r := r) (wd := wd) (c0 := c0) 54 h3 h4 h5 h6 h7 h8 hx1 hx2) (TTx (x := x) (q := q) g1 g2) ipQ := (ipCons (ipN (.i64, r + 3) rfl (show (IntKind.i64, q) = (IntKind.i64, r + 3) from Prod.ext rfl (show (q : Int) = r + 3 by omega))) ipNil)
  refine stepsTo_sound (T := (TDx (x := x) (r := r) (wd := wd) (c0 := c0) 54 h3 h4 h5 h6 h7 h8 hx1 hx2)) (T' := (TTx (x := x) (q := q) g1 g2)) (K := Hand.none) (m := 5000) sp.mixed (@HandOk.none (TDx (x := x) (r := r) (wd := wd) (c0 := c0) 54 h3 h4 h5 h6 h7 h8 hx1 hx2) Tryz.prog) (C := ⟨17792, 17802, ofPairs rlQ, ipQ⟩) (ex := .exit 0) (rl := rlQ) (vp := []) (fs := fsq) (bs := bq18)
    hb (by decide) rfl (by kernel_rfl) hip vpNil (glNone rfl rfl) (by as_aux_lemma => kernel_rfl) (St.same (VRows.rsame _ _ _) s_) (fun a' w' q_ => ⟨rfl, by rw [bqq18] at q_; exact q_⟩)
theorem gt18 : Tail v18 bE18 bF18 := by
  intro x q g1 g2 B w0 μ a w hb s
  letI : Tab := (TTx (x := x) (q := q) g1 g2)
  have hip : IpOk (TTx (x := x) (q := q) g1 g2) (TTx (x := x) (q := q) g1 g2) ipT := (ipCons (ipN _ rfl rfl) ipNil)
  refine wp_mono (runTo_sound (T := (TTx (x := x) (q := q) g1 g2)) (T' := (TTx (x := x) (q := q) g1 g2)) (K := K_top0) (n := 5000) sp.mixed (@K_top0_ok (TTx (x := x) (q := q) g1 g2)) (C := ⟨17792, 17802, ofPairs rlT, ipT⟩) (ex := .ret) (rl := rlT) (vp := []) (fs := [(10, .ptr 17792 0)]) (bs := bF18)
    hb (by decide) rfl (by kernel_rfl) hip vpNil (glNone rfl rfl) (by as_aux_lemma => kernel_rfl) s) ?_
  rintro e' a' w' ⟨rfl, s'⟩
  exact St.done (.inr rfl) (by kernel_rfl) s'
theorem cr18 : @InOk Tryz.prog (CRo v18 b18) ((RL (x := 18) (q := 214) (s := 0) (d := 0) (o := 0) (by decide) (by decide)).tab) := CR_ok (by decide) (by decide) 18 54 (by kernel_rfl) (by kernel_rfl) gq18 gt18 rfl rfl (by decide) rfl
noncomputable abbrev v22 : AV := vK 69
noncomputable abbrev bE22 : BS := [(14321, 14321, (mbK 69)), (17792, 17792, ansK), (17793, 17793, (.cells 69 true [] (T.ofList 0 .leaf (bs.ot 23))))]
noncomputable abbrev bF22 : BS := [(14321, 14321, (mbbK 69)), (17792, 17792, (aggK 69)), (17793, 17793, (.cells 69 true [] (T.ofList 0 .leaf (bs.ot 23))))]
noncomputable abbrev b22 : BL := [(14321, (mbbK 69)), (17793, (.cells 69 true [] (T.ofList 0 .leaf (bs.ot 23))))]
noncomputable abbrev bq22 : BS := [(14321, 14321, (mbK 69)), (17792, 30000, ansK), (17793, 30354, (.cells 69 true [] (T.ofList 0 .leaf (bs.ot 23))))]
theorem bqq22 : hOf 17802 bq22 = hOf 17802 bE22 := hOf_congr (by kernel_rfl)
theorem gq22 : GoQ 22 66 bE22 := by
  intro x q g1 g2 B w0 μ a w r wd c0 h3 h4 h5 h6 h7 h8 hx1 hx2 e2 hb s_
  have hip : IpOk (TDx (x := x) (r := r) (wd := wd) (c0 := c0) 66 h3 h4 h5 h6 h7 h8 hx1 hx2) (TTx (x := x) (q := q) g1 g2) ipQ := (ipCons (ipN (.i64, r + 3) rfl (show (IntKind.i64, q) = (IntKind.i64, r + 3) from Prod.ext rfl (show (q : Int) = r + 3 by omega))) ipNil)
  refine stepsTo_sound (T := (TDx (x := x) (r := r) (wd := wd) (c0 := c0) 66 h3 h4 h5 h6 h7 h8 hx1 hx2)) (T' := (TTx (x := x) (q := q) g1 g2)) (K := Hand.none) (m := 5000) sp.mixed (@HandOk.none (TDx (x := x) (r := r) (wd := wd) (c0 := c0) 66 h3 h4 h5 h6 h7 h8 hx1 hx2) Tryz.prog) (C := ⟨17792, 17802, ofPairs rlQ, ipQ⟩) (ex := .exit 0) (rl := rlQ) (vp := []) (fs := fsq) (bs := bq22)
    hb (by decide) rfl (by kernel_rfl) hip vpNil (glNone rfl rfl) (by as_aux_lemma => kernel_rfl) (St.same (VRows.rsame _ _ _) s_) (fun a' w' q_ => ⟨rfl, by rw [bqq22] at q_; exact q_⟩)
theorem gt22 : Tail v22 bE22 bF22 := by
  intro x q g1 g2 B w0 μ a w hb s
  letI : Tab := (TTx (x := x) (q := q) g1 g2)
  have hip : IpOk (TTx (x := x) (q := q) g1 g2) (TTx (x := x) (q := q) g1 g2) ipT := (ipCons (ipN _ rfl rfl) ipNil)
  refine wp_mono (runTo_sound (T := (TTx (x := x) (q := q) g1 g2)) (T' := (TTx (x := x) (q := q) g1 g2)) (K := K_top0) (n := 5000) sp.mixed (@K_top0_ok (TTx (x := x) (q := q) g1 g2)) (C := ⟨17792, 17802, ofPairs rlT, ipT⟩) (ex := .ret) (rl := rlT) (vp := []) (fs := [(10, .ptr 17792 0)]) (bs := bF22)
    hb (by decide) rfl (by kernel_rfl) hip vpNil (glNone rfl rfl) (by as_aux_lemma => kernel_rfl) s) ?_
  rintro e' a' w' ⟨rfl, s'⟩
  exact St.done (.inr rfl) (by kernel_rfl) s'
theorem cr22 : @InOk Tryz.prog (CRo v22 b22) ((RL (x := 22) (q := 258) (s := 0) (d := 0) (o := 0) (by decide) (by decide)).tab) := CR_ok (by decide) (by decide) 22 66 (by kernel_rfl) (by kernel_rfl) gq22 gt22 rfl rfl (by decide) rfl
noncomputable abbrev v26 : AV := vK 81
noncomputable abbrev bE26 : BS := [(14321, 14321, (mbK 81)), (17792, 17792, ansK), (17793, 17793, (.cells 81 true [] (T.ofList 0 .leaf (bs.ot 27))))]
noncomputable abbrev bF26 : BS := [(14321, 14321, (mbbK 81)), (17792, 17792, (aggK 81)), (17793, 17793, (.cells 81 true [] (T.ofList 0 .leaf (bs.ot 27))))]
noncomputable abbrev b26 : BL := [(14321, (mbbK 81)), (17793, (.cells 81 true [] (T.ofList 0 .leaf (bs.ot 27))))]
noncomputable abbrev bq26 : BS := [(14321, 14321, (mbK 81)), (17792, 30000, ansK), (17793, 30354, (.cells 81 true [] (T.ofList 0 .leaf (bs.ot 27))))]
theorem bqq26 : hOf 17802 bq26 = hOf 17802 bE26 := hOf_congr (by kernel_rfl)
theorem gq26 : GoQ 26 78 bE26 := by
  intro x q g1 g2 B w0 μ a w r wd c0 h3 h4 h5 h6 h7 h8 hx1 hx2 e2 hb s_
  have hip : IpOk (TDx (x := x) (r := r) (wd := wd) (c0 := c0) 78 h3 h4 h5 h6 h7 h8 hx1 hx2) (TTx (x := x) (q := q) g1 g2) ipQ := (ipCons (ipN (.i64, r + 3) rfl (show (IntKind.i64, q) = (IntKind.i64, r + 3) from Prod.ext rfl (show (q : Int) = r + 3 by omega))) ipNil)
  refine stepsTo_sound (T := (TDx (x := x) (r := r) (wd := wd) (c0 := c0) 78 h3 h4 h5 h6 h7 h8 hx1 hx2)) (T' := (TTx (x := x) (q := q) g1 g2)) (K := Hand.none) (m := 5000) sp.mixed (@HandOk.none (TDx (x := x) (r := r) (wd := wd) (c0 := c0) 78 h3 h4 h5 h6 h7 h8 hx1 hx2) Tryz.prog) (C := ⟨17792, 17802, ofPairs rlQ, ipQ⟩) (ex := .exit 0) (rl := rlQ) (vp := []) (fs := fsq) (bs := bq26)
    hb (by decide) rfl (by kernel_rfl) hip vpNil (glNone rfl rfl) (by as_aux_lemma => kernel_rfl) (St.same (VRows.rsame _ _ _) s_) (fun a' w' q_ => ⟨rfl, by rw [bqq26] at q_; exact q_⟩)
theorem gt26 : Tail v26 bE26 bF26 := by
  intro x q g1 g2 B w0 μ a w hb s
  letI : Tab := (TTx (x := x) (q := q) g1 g2)
  have hip : IpOk (TTx (x := x) (q := q) g1 g2) (TTx (x := x) (q := q) g1 g2) ipT := (ipCons (ipN _ rfl rfl) ipNil)
  refine wp_mono (runTo_sound (T := (TTx (x := x) (q := q) g1 g2)) (T' := (TTx (x := x) (q := q) g1 g2)) (K := K_top0) (n := 5000) sp.mixed (@K_top0_ok (TTx (x := x) (q := q) g1 g2)) (C := ⟨17792, 17802, ofPairs rlT, ipT⟩) (ex := .ret) (rl := rlT) (vp := []) (fs := [(10, .ptr 17792 0)]) (bs := bF26)
    hb (by decide) rfl (by kernel_rfl) hip vpNil (glNone rfl rfl) (by as_aux_lemma => kernel_rfl) s) ?_
  rintro e' a' w' ⟨rfl, s'⟩
  exact St.done (.inr rfl) (by kernel_rfl) s'
theorem cr26 : @InOk Tryz.prog (CRo v26 b26) ((RL (x := 26) (q := 302) (s := 0) (d := 0) (o := 0) (by decide) (by decide)).tab) := CR_ok (by decide) (by decide) 26 78 (by kernel_rfl) (by kernel_rfl) gq26 gt26 rfl rfl (by decide) rfl
noncomputable abbrev v30 : AV := vK 93
noncomputable abbrev bE30 : BS := [(14321, 14321, (mbK 93)), (17792, 17792, ansK), (17793, 17793, (.cells 93 true [] (T.ofList 0 .leaf (bs.ot 31))))]
noncomputable abbrev bF30 : BS := [(14321, 14321, (mbbK 93)), (17792, 17792, (aggK 93)), (17793, 17793, (.cells 93 true [] (T.ofList 0 .leaf (bs.ot 31))))]
noncomputable abbrev b30 : BL := [(14321, (mbbK 93)), (17793, (.cells 93 true [] (T.ofList 0 .leaf (bs.ot 31))))]
noncomputable abbrev bq30 : BS := [(14321, 14321, (mbK 93)), (17792, 30000, ansK), (17793, 30354, (.cells 93 true [] (T.ofList 0 .leaf (bs.ot 31))))]
theorem bqq30 : hOf 17802 bq30 = hOf 17802 bE30 := hOf_congr (by kernel_rfl)
theorem gq30 : GoQ 30 90 bE30 := by
  intro x q g1 g2 B w0 μ a w r wd c0 h3 h4 h5 h6 h7 h8 hx1 hx2 e2 hb s_
  have hip : IpOk (TDx (x := x) (r := r) (wd := wd) (c0 := c0) 90 h3 h4 h5 h6 h7 h8 hx1 hx2) (TTx (x := x) (q := q) g1 g2) ipQ := (ipCons (ipN (.i64, r + 3) rfl (show (IntKind.i64, q) = (IntKind.i64, r + 3) from Prod.ext rfl (show (q : Int) = r + 3 by omega))) ipNil)
  refine stepsTo_sound (T := (TDx (x := x) (r := r) (wd := wd) (c0 := c0) 90 h3 h4 h5 h6 h7 h8 hx1 hx2)) (T' := (TTx (x := x) (q := q) g1 g2)) (K := Hand.none) (m := 5000) sp.mixed (@HandOk.none (TDx (x := x) (r := r) (wd := wd) (c0 := c0) 90 h3 h4 h5 h6 h7 h8 hx1 hx2) Tryz.prog) (C := ⟨17792, 17802, ofPairs rlQ, ipQ⟩) (ex := .exit 0) (rl := rlQ) (vp := []) (fs := fsq) (bs := bq30)
    hb (by decide) rfl (by kernel_rfl) hip vpNil (glNone rfl rfl) (by as_aux_lemma => kernel_rfl) (St.same (VRows.rsame _ _ _) s_) (fun a' w' q_ => ⟨rfl, by rw [bqq30] at q_; exact q_⟩)
theorem gt30 : Tail v30 bE30 bF30 := by
  intro x q g1 g2 B w0 μ a w hb s
  letI : Tab := (TTx (x := x) (q := q) g1 g2)
  have hip : IpOk (TTx (x := x) (q := q) g1 g2) (TTx (x := x) (q := q) g1 g2) ipT := (ipCons (ipN _ rfl rfl) ipNil)
  refine wp_mono (runTo_sound (T := (TTx (x := x) (q := q) g1 g2)) (T' := (TTx (x := x) (q := q) g1 g2)) (K := K_top0) (n := 5000) sp.mixed (@K_top0_ok (TTx (x := x) (q := q) g1 g2)) (C := ⟨17792, 17802, ofPairs rlT, ipT⟩) (ex := .ret) (rl := rlT) (vp := []) (fs := [(10, .ptr 17792 0)]) (bs := bF30)
    hb (by decide) rfl (by kernel_rfl) hip vpNil (glNone rfl rfl) (by as_aux_lemma => kernel_rfl) s) ?_
  rintro e' a' w' ⟨rfl, s'⟩
  exact St.done (.inr rfl) (by kernel_rfl) s'
theorem cr30 : @InOk Tryz.prog (CRo v30 b30) ((RL (x := 30) (q := 346) (s := 0) (d := 0) (o := 0) (by decide) (by decide)).tab) := CR_ok (by decide) (by decide) 30 90 (by kernel_rfl) (by kernel_rfl) gq30 gt30 rfl rfl (by decide) rfl
noncomputable abbrev v34 : AV := vK 105
noncomputable abbrev bE34 : BS := [(14321, 14321, (mbK 105)), (17792, 17792, ansK), (17793, 17793, (.cells 105 true [] (T.ofList 0 .leaf (bs.ot 35))))]
noncomputable abbrev bF34 : BS := [(14321, 14321, (mbbK 105)), (17792, 17792, (aggK 105)), (17793, 17793, (.cells 105 true [] (T.ofList 0 .leaf (bs.ot 35))))]
noncomputable abbrev b34 : BL := [(14321, (mbbK 105)), (17793, (.cells 105 true [] (T.ofList 0 .leaf (bs.ot 35))))]
noncomputable abbrev bq34 : BS := [(14321, 14321, (mbK 105)), (17792, 30000, ansK), (17793, 30354, (.cells 105 true [] (T.ofList 0 .leaf (bs.ot 35))))]
theorem bqq34 : hOf 17802 bq34 = hOf 17802 bE34 := hOf_congr (by kernel_rfl)
theorem gq34 : GoQ 34 102 bE34 := by
  intro x q g1 g2 B w0 μ a w r wd c0 h3 h4 h5 h6 h7 h8 hx1 hx2 e2 hb s_
  have hip : IpOk (TDx (x := x) (r := r) (wd := wd) (c0 := c0) 102 h3 h4 h5 h6 h7 h8 hx1 hx2) (TTx (x := x) (q := q) g1 g2) ipQ := (ipCons (ipN (.i64, r + 3) rfl (show (IntKind.i64, q) = (IntKind.i64, r + 3) from Prod.ext rfl (show (q : Int) = r + 3 by omega))) ipNil)
  refine stepsTo_sound (T := (TDx (x := x) (r := r) (wd := wd) (c0 := c0) 102 h3 h4 h5 h6 h7 h8 hx1 hx2)) (T' := (TTx (x := x) (q := q) g1 g2)) (K := Hand.none) (m := 5000) sp.mixed (@HandOk.none (TDx (x := x) (r := r) (wd := wd) (c0 := c0) 102 h3 h4 h5 h6 h7 h8 hx1 hx2) Tryz.prog) (C := ⟨17792, 17802, ofPairs rlQ, ipQ⟩) (ex := .exit 0) (rl := rlQ) (vp := []) (fs := fsq) (bs := bq34)
    hb (by decide) rfl (by kernel_rfl) hip vpNil (glNone rfl rfl) (by as_aux_lemma => kernel_rfl) (St.same (VRows.rsame _ _ _) s_) (fun a' w' q_ => ⟨rfl, by rw [bqq34] at q_; exact q_⟩)
theorem gt34 : Tail v34 bE34 bF34 := by
  intro x q g1 g2 B w0 μ a w hb s
  letI : Tab := (TTx (x := x) (q := q) g1 g2)
  have hip : IpOk (TTx (x := x) (q := q) g1 g2) (TTx (x := x) (q := q) g1 g2) ipT := (ipCons (ipN _ rfl rfl) ipNil)
  refine wp_mono (runTo_sound (T := (TTx (x := x) (q := q) g1 g2)) (T' := (TTx (x := x) (q := q) g1 g2)) (K := K_top0) (n := 5000) sp.mixed (@K_top0_ok (TTx (x := x) (q := q) g1 g2)) (C := ⟨17792, 17802, ofPairs rlT, ipT⟩) (ex := .ret) (rl := rlT) (vp := []) (fs := [(10, .ptr 17792 0)]) (bs := bF34)
    hb (by decide) rfl (by kernel_rfl) hip vpNil (glNone rfl rfl) (by as_aux_lemma => kernel_rfl) s) ?_
  rintro e' a' w' ⟨rfl, s'⟩
  exact St.done (.inr rfl) (by kernel_rfl) s'
theorem cr34 : @InOk Tryz.prog (CRo v34 b34) ((RL (x := 34) (q := 390) (s := 0) (d := 0) (o := 0) (by decide) (by decide)).tab) := CR_ok (by decide) (by decide) 34 102 (by kernel_rfl) (by kernel_rfl) gq34 gt34 rfl rfl (by decide) rfl
noncomputable abbrev v38 : AV := vK 117
noncomputable abbrev bE38 : BS := [(14321, 14321, (mbK 117)), (17792, 17792, ansK), (17793, 17793, (.cells 117 true [] (T.ofList 0 .leaf (bs.ot 39))))]
noncomputable abbrev bF38 : BS := [(14321, 14321, (mbbK 117)), (17792, 17792, (aggK 117)), (17793, 17793, (.cells 117 true [] (T.ofList 0 .leaf (bs.ot 39))))]
noncomputable abbrev b38 : BL := [(14321, (mbbK 117)), (17793, (.cells 117 true [] (T.ofList 0 .leaf (bs.ot 39))))]
noncomputable abbrev bq38 : BS := [(14321, 14321, (mbK 117)), (17792, 30000, ansK), (17793, 30354, (.cells 117 true [] (T.ofList 0 .leaf (bs.ot 39))))]
theorem bqq38 : hOf 17802 bq38 = hOf 17802 bE38 := hOf_congr (by kernel_rfl)
theorem gq38 : GoQ 38 114 bE38 := by
  intro x q g1 g2 B w0 μ a w r wd c0 h3 h4 h5 h6 h7 h8 hx1 hx2 e2 hb s_
  have hip : IpOk (TDx (x := x) (r := r) (wd := wd) (c0 := c0) 114 h3 h4 h5 h6 h7 h8 hx1 hx2) (TTx (x := x) (q := q) g1 g2) ipQ := (ipCons (ipN (.i64, r + 3) rfl (show (IntKind.i64, q) = (IntKind.i64, r + 3) from Prod.ext rfl (show (q : Int) = r + 3 by omega))) ipNil)
  refine stepsTo_sound (T := (TDx (x := x) (r := r) (wd := wd) (c0 := c0) 114 h3 h4 h5 h6 h7 h8 hx1 hx2)) (T' := (TTx (x := x) (q := q) g1 g2)) (K := Hand.none) (m := 5000) sp.mixed (@HandOk.none (TDx (x := x) (r := r) (wd := wd) (c0 := c0) 114 h3 h4 h5 h6 h7 h8 hx1 hx2) Tryz.prog) (C := ⟨17792, 17802, ofPairs rlQ, ipQ⟩) (ex := .exit 0) (rl := rlQ) (vp := []) (fs := fsq) (bs := bq38)
    hb (by decide) rfl (by kernel_rfl) hip vpNil (glNone rfl rfl) (by as_aux_lemma => kernel_rfl) (St.same (VRows.rsame _ _ _) s_) (fun a' w' q_ => ⟨rfl, by rw [bqq38] at q_; exact q_⟩)
theorem gt38 : Tail v38 bE38 bF38 := by
  intro x q g1 g2 B w0 μ a w hb s
  letI : Tab := (TTx (x := x) (q := q) g1 g2)
  have hip : IpOk (TTx (x := x) (q := q) g1 g2) (TTx (x := x) (q := q) g1 g2) ipT := (ipCons (ipN _ rfl rfl) ipNil)
  refine wp_mono (runTo_sound (T := (TTx (x := x) (q := q) g1 g2)) (T' := (TTx (x := x) (q := q) g1 g2)) (K := K_top0) (n := 5000) sp.mixed (@K_top0_ok (TTx (x := x) (q := q) g1 g2)) (C := ⟨17792, 17802, ofPairs rlT, ipT⟩) (ex := .ret) (rl := rlT) (vp := []) (fs := [(10, .ptr 17792 0)]) (bs := bF38)
    hb (by decide) rfl (by kernel_rfl) hip vpNil (glNone rfl rfl) (by as_aux_lemma => kernel_rfl) s) ?_
  rintro e' a' w' ⟨rfl, s'⟩
  exact St.done (.inr rfl) (by kernel_rfl) s'
theorem cr38 : @InOk Tryz.prog (CRo v38 b38) ((RL (x := 38) (q := 434) (s := 0) (d := 0) (o := 0) (by decide) (by decide)).tab) := CR_ok (by decide) (by decide) 38 114 (by kernel_rfl) (by kernel_rfl) gq38 gt38 rfl rfl (by decide) rfl
end Go.Proofs.YtbgkinjicnnkiaaGreatDoor.sc
