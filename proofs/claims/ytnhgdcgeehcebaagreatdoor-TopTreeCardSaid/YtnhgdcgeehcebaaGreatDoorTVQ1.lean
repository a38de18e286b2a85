/-
  The end of the run, and the law, for some numbers.
-/
import Derived.Test.YtnhgdcgeehcebaaGreatDoorTVA
import Derived.Test.YtnhgdcgeehcebaaGreatDoorXN3
set_option linter.unusedSectionVars false
set_option linter.unusedVariables false
set_option maxRecDepth 1000000
set_option maxHeartbeats 0
namespace Go.Proofs.YtnhgdcgeehcebaaGreatDoor.tv
open Go.X Go.RowKit Go.Proofs.YtnhgdcgeehcebaaGreatDoor.tq Go.Proofs.YtnhgdcgeehcebaaGreatDoor
noncomputable def fullL:Code:=(Tryz.f3.body).getD .skip
theorem bodyL_eq:Tryz.f3.body=some fullL:=by kernel_rfl
noncomputable abbrev NL:Nat:=Tryz.f3.ntmps
noncomputable abbrev fsA:List (Nat×AV):=[(0,.oi 0),(3,.bool true)]
end Go.Proofs.YtnhgdcgeehcebaaGreatDoor.tv
set_option linter.unusedSectionVars false
set_option linter.unusedVariables false
set_option maxRecDepth 1000000
set_option maxHeartbeats 0
namespace Go.Proofs.YtnhgdcgeehcebaaGreatDoor.tv
open Go.X Go.RowKit Go.Proofs.YtnhgdcgeehcebaaGreatDoor.tq Go.Proofs.YtnhgdcgeehcebaaGreatDoor
theorem bqq1:hOf 17637 (bQ 1)=hOf 17637 (bE 1):=hOf_congr (by kernel_rfl)
theorem gq1:GoQ 1 (bE 1):=by
  intro x q r1 B w0 μ a w r wd c0 c1 c2 nn rs W h3 h4 h5 h6 e1 e2 e3 hb s_
  have hip:=hipQ (x:=x) (q:=q) (r1:=r1) (r:=r) (wd:=wd) (c0:=c0) (c1:=c1) (c2:=c2) (nn:=nn) (rs:=rs) (W:=W) h3 h4 h5 h6 e1 e2 e3
  refine stepsTo_sound (T:=TDx (xx:=x) (r:=r) (wd:=wd) (c0:=c0) (c1:=c1) (c2:=c2) (nn:=nn) (rs:=rs) (W:=W) h3 h4 h5 h6) (T':=(TTx x q r1)) (K:=Hand.none) (m:=5000) tt.mixed (@HandOk.none (TDx (xx:=x) (r:=r) (wd:=wd) (c0:=c0) (c1:=c1) (c2:=c2) (nn:=nn) (rs:=rs) (W:=W) h3 h4 h5 h6) Tryz.prog) (C:=⟨17617,17637,ofPairs rlQ,ipQ⟩) (ex := .exit 0) (rl:=rlQ) (vp:=[]) (fs:=fsq) (bs:=(bQ 1))
    hb (by decide) rfl (by kernel_rfl) hip vpNil (glNone rfl rfl) (by as_aux_lemma=>kernel_rfl) (St.same (VRows.rsame _ _ _) s_) (fun a' w' q_=>⟨rfl,by rw [bqq1] at q_;exact q_⟩)
theorem gt1:Tail (bE 1) (bF 1):=by
  intro x q r1 B w0 μ a w hb s
  letI:Tab:=(TTx x q r1)
  have hip:=hipT x q r1
  refine wp_mono (runTo_sound (T:=(TTx x q r1)) (T':=(TTx x q r1)) (K:=K_top0) (n:=5000) tt.mixed (@K_top0_ok (TTx x q r1)) (C:=⟨17617,17637,ofPairs rlT,ipT⟩) (ex := .ret) (rl:=rlT) (vp:=[]) (fs:=[(10,.ptr 17617 0)]) (bs:=(bF 1))
    hb (by decide) rfl (by kernel_rfl) hip vpNil (glNone rfl rfl) (by as_aux_lemma=>kernel_rfl) s) ?_
  rintro e' a' w' ⟨rfl,s'⟩
  exact St.done (.inr rfl) (by kernel_rfl) s'
theorem ibL1:∀ x_∈([(15,.int .i64 1,.oi 0,.int .i64 2),(9,.oi 3,.int .i64 1,.bool true)]:List BRow),IbOk (ivT 1 61 1) x_:=by
  letI:=Tab.empty
  exact (ibCons (ibShl (k := .i64) (k' := .i64) (a:=1) (b:=1) (c:=2) rfl rfl rfl (by decide) (by decide)) (ibCons (ibEq (a:=1) (b:=1) rfl rfl (decide_eq_true rfl)) ibNil))
abbrev RL1:VRows (ivT 1 61 1) noV noK where
  vvp:=noVp
  ib:=[(15,.int .i64 1,.oi 0,.int .i64 2),(9,.oi 3,.int .i64 1,.bool true)]
  ibok:=ibL1
  ic:=[(.i32,.oi 0,.oi 1),(.i64,.oi 1,.oi 0)]
  icok:=icL (by decide) (by decide)
theorem cr1:@InOk Tryz.prog (CRo (bK 1)) (TTx 1 61 1):=CR_ok (x:=1) (q:=61) (r1:=1) 0 1 (by kernel_rfl) (by kernel_rfl) gq1 gt1 (by decide) (by decide) rfl rfl (by decide)
theorem bqq2:hOf 17637 (bQ 3)=hOf 17637 (bE 3):=hOf_congr (by kernel_rfl)
theorem gq2:GoQ 3 (bE 3):=by
  intro x q r1 B w0 μ a w r wd c0 c1 c2 nn rs W h3 h4 h5 h6 e1 e2 e3 hb s_
  have hip:=hipQ (x:=x) (q:=q) (r1:=r1) (r:=r) (wd:=wd) (c0:=c0) (c1:=c1) (c2:=c2) (nn:=nn) (rs:=rs) (W:=W) h3 h4 h5 h6 e1 e2 e3
  refine stepsTo_sound (T:=TDx (xx:=x) (r:=r) (wd:=wd) (c0:=c0) (c1:=c1) (c2:=c2) (nn:=nn) (rs:=rs) (W:=W) h3 h4 h5 h6) (T':=(TTx x q r1)) (K:=Hand.none) (m:=5000) tt.mixed (@HandOk.none (TDx (xx:=x) (r:=r) (wd:=wd) (c0:=c0) (c1:=c1) (c2:=c2) (nn:=nn) (rs:=rs) (W:=W) h3 h4 h5 h6) Tryz.prog) (C:=⟨17617,17637,ofPairs rlQ,ipQ⟩) (ex := .exit 0) (rl:=rlQ) (vp:=[]) (fs:=fsq) (bs:=(bQ 3))
    hb (by decide) rfl (by kernel_rfl) hip vpNil (glNone rfl rfl) (by as_aux_lemma=>kernel_rfl) (St.same (VRows.rsame _ _ _) s_) (fun a' w' q_=>⟨rfl,by rw [bqq2] at q_;exact q_⟩)
theorem gt2:Tail (bE 3) (bF 3):=by
  intro x q r1 B w0 μ a w hb s
  letI:Tab:=(TTx x q r1)
  have hip:=hipT x q r1
  refine wp_mono (runTo_sound (T:=(TTx x q r1)) (T':=(TTx x q r1)) (K:=K_top0) (n:=5000) tt.mixed (@K_top0_ok (TTx x q r1)) (C:=⟨17617,17637,ofPairs rlT,ipT⟩) (ex := .ret) (rl:=rlT) (vp:=[]) (fs:=[(10,.ptr 17617 0)]) (bs:=(bF 3))
    hb (by decide) rfl (by kernel_rfl) hip vpNil (glNone rfl rfl) (by as_aux_lemma=>kernel_rfl) s) ?_
  rintro e' a' w' ⟨rfl,s'⟩
  exact St.done (.inr rfl) (by kernel_rfl) s'
theorem ibL2:∀ x_∈([(15,.int .i64 1,.oi 0,.int .i64 4),(9,.oi 3,.int .i64 3,.bool true)]:List BRow),IbOk (ivT 2 155 3) x_:=by
  letI:=Tab.empty
  exact (ibCons (ibShl (k := .i64) (k' := .i64) (a:=1) (b:=2) (c:=4) rfl rfl rfl (by decide) (by decide)) (ibCons (ibEq (a:=3) (b:=3) rfl rfl (decide_eq_true rfl)) ibNil))
abbrev RL2:VRows (ivT 2 155 3) noV noK where
  vvp:=noVp
  ib:=[(15,.int .i64 1,.oi 0,.int .i64 4),(9,.oi 3,.int .i64 3,.bool true)]
  ibok:=ibL2
  ic:=[(.i32,.oi 0,.oi 1),(.i64,.oi 1,.oi 0)]
  icok:=icL (by decide) (by decide)
theorem cr2:@InOk Tryz.prog (CRo (bK 3)) (TTx 2 155 3):=CR_ok (x:=2) (q:=155) (r1:=3) 1 3 (by kernel_rfl) (by kernel_rfl) gq2 gt2 (by decide) (by decide) rfl rfl (by decide)
theorem bqq3:hOf 17637 (bQ 7)=hOf 17637 (bE 7):=hOf_congr (by kernel_rfl)
theorem gq3:GoQ 7 (bE 7):=by
  intro x q r1 B w0 μ a w r wd c0 c1 c2 nn rs W h3 h4 h5 h6 e1 e2 e3 hb s_
  have hip:=hipQ (x:=x) (q:=q) (r1:=r1) (r:=r) (wd:=wd) (c0:=c0) (c1:=c1) (c2:=c2) (nn:=nn) (rs:=rs) (W:=W) h3 h4 h5 h6 e1 e2 e3
  refine stepsTo_sound (T:=TDx (xx:=x) (r:=r) (wd:=wd) (c0:=c0) (c1:=c1) (c2:=c2) (nn:=nn) (rs:=rs) (W:=W) h3 h4 h5 h6) (T':=(TTx x q r1)) (K:=Hand.none) (m:=5000) tt.mixed (@HandOk.none (TDx (xx:=x) (r:=r) (wd:=wd) (c0:=c0) (c1:=c1) (c2:=c2) (nn:=nn) (rs:=rs) (W:=W) h3 h4 h5 h6) Tryz.prog) (C:=⟨17617,17637,ofPairs rlQ,ipQ⟩) (ex := .exit 0) (rl:=rlQ) (vp:=[]) (fs:=fsq) (bs:=(bQ 7))
    hb (by decide) rfl (by kernel_rfl) hip vpNil (glNone rfl rfl) (by as_aux_lemma=>kernel_rfl) (St.same (VRows.rsame _ _ _) s_) (fun a' w' q_=>⟨rfl,by rw [bqq3] at q_;exact q_⟩)
theorem gt3:Tail (bE 7) (bF 7):=by
  intro x q r1 B w0 μ a w hb s
  letI:Tab:=(TTx x q r1)
  have hip:=hipT x q r1
  refine wp_mono (runTo_sound (T:=(TTx x q r1)) (T':=(TTx x q r1)) (K:=K_top0) (n:=5000) tt.mixed (@K_top0_ok (TTx x q r1)) (C:=⟨17617,17637,ofPairs rlT,ipT⟩) (ex := .ret) (rl:=rlT) (vp:=[]) (fs:=[(10,.ptr 17617 0)]) (bs:=(bF 7))
    hb (by decide) rfl (by kernel_rfl) hip vpNil (glNone rfl rfl) (by as_aux_lemma=>kernel_rfl) s) ?_
  rintro e' a' w' ⟨rfl,s'⟩
  exact St.done (.inr rfl) (by kernel_rfl) s'
theorem ibL3:∀ x_∈([(15,.int .i64 1,.oi 0,.int .i64 8),(9,.oi 3,.int .i64 7,.bool true)]:List BRow),IbOk (ivT 3 343 7) x_:=by
  letI:=Tab.empty
  exact (ibCons (ibShl (k := .i64) (k' := .i64) (a:=1) (b:=3) (c:=8) rfl rfl rfl (by decide) (by decide)) (ibCons (ibEq (a:=7) (b:=7) rfl rfl (decide_eq_true rfl)) ibNil))
abbrev RL3:VRows (ivT 3 343 7) noV noK where
  vvp:=noVp
  ib:=[(15,.int .i64 1,.oi 0,.int .i64 8),(9,.oi 3,.int .i64 7,.bool true)]
  ibok:=ibL3
  ic:=[(.i32,.oi 0,.oi 1),(.i64,.oi 1,.oi 0)]
  icok:=icL (by decide) (by decide)
theorem cr3:@InOk Tryz.prog (CRo (bK 7)) (TTx 3 343 7):=CR_ok (x:=3) (q:=343) (r1:=7) 2 7 (by kernel_rfl) (by kernel_rfl) gq3 gt3 (by decide) (by decide) rfl rfl (by decide)
theorem bqq4:hOf 17637 (bQ 15)=hOf 17637 (bE 15):=hOf_congr (by kernel_rfl)
theorem gq4:GoQ 15 (bE 15):=by
  intro x q r1 B w0 μ a w r wd c0 c1 c2 nn rs W h3 h4 h5 h6 e1 e2 e3 hb s_
  have hip:=hipQ (x:=x) (q:=q) (r1:=r1) (r:=r) (wd:=wd) (c0:=c0) (c1:=c1) (c2:=c2) (nn:=nn) (rs:=rs) (W:=W) h3 h4 h5 h6 e1 e2 e3
  refine stepsTo_sound (T:=TDx (xx:=x) (r:=r) (wd:=wd) (c0:=c0) (c1:=c1) (c2:=c2) (nn:=nn) (rs:=rs) (W:=W) h3 h4 h5 h6) (T':=(TTx x q r1)) (K:=Hand.none) (m:=5000) tt.mixed (@HandOk.none (TDx (xx:=x) (r:=r) (wd:=wd) (c0:=c0) (c1:=c1) (c2:=c2) (nn:=nn) (rs:=rs) (W:=W) h3 h4 h5 h6) Tryz.prog) (C:=⟨17617,17637,ofPairs rlQ,ipQ⟩) (ex := .exit 0) (rl:=rlQ) (vp:=[]) (fs:=fsq) (bs:=(bQ 15))
    hb (by decide) rfl (by kernel_rfl) hip vpNil (glNone rfl rfl) (by as_aux_lemma=>kernel_rfl) (St.same (VRows.rsame _ _ _) s_) (fun a' w' q_=>⟨rfl,by rw [bqq4] at q_;exact q_⟩)
theorem gt4:Tail (bE 15) (bF 15):=by
  intro x q r1 B w0 μ a w hb s
  letI:Tab:=(TTx x q r1)
  have hip:=hipT x q r1
  refine wp_mono (runTo_sound (T:=(TTx x q r1)) (T':=(TTx x q r1)) (K:=K_top0) (n:=5000) tt.mixed (@K_top0_ok (TTx x q r1)) (C:=⟨17617,17637,ofPairs rlT,ipT⟩) (ex := .ret) (rl:=rlT) (vp:=[]) (fs:=[(10,.ptr 17617 0)]) (bs:=(bF 15))
    hb (by decide) rfl (by kernel_rfl) hip vpNil (glNone rfl rfl) (by as_aux_lemma=>kernel_rfl) s) ?_
  rintro e' a' w' ⟨rfl,s'⟩
  exact St.done (.inr rfl) (by kernel_rfl) s'
theorem ibL4:∀ x_∈([(15,.int .i64 1,.oi 0,.int .i64 16),(9,.oi 3,.int .i64 15,.bool true)]:List BRow),IbOk (ivT 4 719 15) x_:=by
  letI:=Tab.empty
  exact (ibCons (ibShl (k := .i64) (k' := .i64) (a:=1) (b:=4) (c:=16) rfl rfl rfl (by decide) (by decide)) (ibCons (ibEq (a:=15) (b:=15) rfl rfl (decide_eq_true rfl)) ibNil))
abbrev RL4:VRows (ivT 4 719 15) noV noK where
  vvp:=noVp
  ib:=[(15,.int .i64 1,.oi 0,.int .i64 16),(9,.oi 3,.int .i64 15,.bool true)]
  ibok:=ibL4
  ic:=[(.i32,.oi 0,.oi 1),(.i64,.oi 1,.oi 0)]
  icok:=icL (by decide) (by decide)
theorem cr4:@InOk Tryz.prog (CRo (bK 15)) (TTx 4 719 15):=CR_ok (x:=4) (q:=719) (r1:=15) 3 15 (by kernel_rfl) (by kernel_rfl) gq4 gt4 (by decide) (by decide) rfl rfl (by decide)
theorem bqq5:hOf 17637 (bQ 31)=hOf 17637 (bE 31):=hOf_congr (by kernel_rfl)
theorem gq5:GoQ 31 (bE 31):=by
  intro x q r1 B w0 μ a w r wd c0 c1 c2 nn rs W h3 h4 h5 h6 e1 e2 e3 hb s_
  have hip:=hipQ (x:=x) (q:=q) (r1:=r1) (r:=r) (wd:=wd) (c0:=c0) (c1:=c1) (c2:=c2) (nn:=nn) (rs:=rs) (W:=W) h3 h4 h5 h6 e1 e2 e3
  refine stepsTo_sound (T:=TDx (xx:=x) (r:=r) (wd:=wd) (c0:=c0) (c1:=c1) (c2:=c2) (nn:=nn) (rs:=rs) (W:=W) h3 h4 h5 h6) (T':=(TTx x q r1)) (K:=Hand.none) (m:=5000) tt.mixed (@HandOk.none (TDx (xx:=x) (r:=r) (wd:=wd) (c0:=c0) (c1:=c1) (c2:=c2) (nn:=nn) (rs:=rs) (W:=W) h3 h4 h5 h6) Tryz.prog) (C:=⟨17617,17637,ofPairs rlQ,ipQ⟩) (ex := .exit 0) (rl:=rlQ) (vp:=[]) (fs:=fsq) (bs:=(bQ 31))
    hb (by decide) rfl (by kernel_rfl) hip vpNil (glNone rfl rfl) (by as_aux_lemma=>kernel_rfl) (St.same (VRows.rsame _ _ _) s_) (fun a' w' q_=>⟨rfl,by rw [bqq5] at q_;exact q_⟩)
theorem gt5:Tail (bE 31) (bF 31):=by
  intro x q r1 B w0 μ a w hb s
  letI:Tab:=(TTx x q r1)
  have hip:=hipT x q r1
  refine wp_mono (runTo_sound (T:=(TTx x q r1)) (T':=(TTx x q r1)) (K:=K_top0) (n:=5000) tt.mixed (@K_top0_ok (TTx x q r1)) (C:=⟨17617,17637,ofPairs rlT,ipT⟩) (ex := .ret) (rl:=rlT) (vp:=[]) (fs:=[(10,.ptr 17617 0)]) (bs:=(bF 31))
    hb (by decide) rfl (by kernel_rfl) hip vpNil (glNone rfl rfl) (by as_aux_lemma=>kernel_rfl) s) ?_
  rintro e' a' w' ⟨rfl,s'⟩
  exact St.done (.inr rfl) (by kernel_rfl) s'
theorem ibL5:∀ x_∈([(15,.int .i64 1,.oi 0,.int .i64 32),(9,.oi 3,.int .i64 31,.bool true)]:List BRow),IbOk (ivT 5 1471 31) x_:=by
  letI:=Tab.empty
  exact (ibCons (ibShl (k := .i64) (k' := .i64) (a:=1) (b:=5) (c:=32) rfl rfl rfl (by decide) (by decide)) (ibCons (ibEq (a:=31) (b:=31) rfl rfl (decide_eq_true rfl)) ibNil))
abbrev RL5:VRows (ivT 5 1471 31) noV noK where
  vvp:=noVp
  ib:=[(15,.int .i64 1,.oi 0,.int .i64 32),(9,.oi 3,.int .i64 31,.bool true)]
  ibok:=ibL5
  ic:=[(.i32,.oi 0,.oi 1),(.i64,.oi 1,.oi 0)]
  icok:=icL (by decide) (by decide)
theorem cr5:@InOk Tryz.prog (CRo (bK 31)) (TTx 5 1471 31):=CR_ok (x:=5) (q:=1471) (r1:=31) 4 31 (by kernel_rfl) (by kernel_rfl) gq5 gt5 (by decide) (by decide) rfl rfl (by decide)
theorem bqq6:hOf 17637 (bQ 63)=hOf 17637 (bE 63):=hOf_congr (by kernel_rfl)
theorem gq6:GoQ 63 (bE 63):=by
  intro x q r1 B w0 μ a w r wd c0 c1 c2 nn rs W h3 h4 h5 h6 e1 e2 e3 hb s_
  have hip:=hipQ (x:=x) (q:=q) (r1:=r1) (r:=r) (wd:=wd) (c0:=c0) (c1:=c1) (c2:=c2) (nn:=nn) (rs:=rs) (W:=W) h3 h4 h5 h6 e1 e2 e3
  refine stepsTo_sound (T:=TDx (xx:=x) (r:=r) (wd:=wd) (c0:=c0) (c1:=c1) (c2:=c2) (nn:=nn) (rs:=rs) (W:=W) h3 h4 h5 h6) (T':=(TTx x q r1)) (K:=Hand.none) (m:=5000) tt.mixed (@HandOk.none (TDx (xx:=x) (r:=r) (wd:=wd) (c0:=c0) (c1:=c1) (c2:=c2) (nn:=nn) (rs:=rs) (W:=W) h3 h4 h5 h6) Tryz.prog) (C:=⟨17617,17637,ofPairs rlQ,ipQ⟩) (ex := .exit 0) (rl:=rlQ) (vp:=[]) (fs:=fsq) (bs:=(bQ 63))
    hb (by decide) rfl (by kernel_rfl) hip vpNil (glNone rfl rfl) (by as_aux_lemma=>kernel_rfl) (St.same (VRows.rsame _ _ _) s_) (fun a' w' q_=>⟨rfl,by rw [bqq6] at q_;exact q_⟩)
theorem gt6:Tail (bE 63) (bF 63):=by
  intro x q r1 B w0 μ a w hb s
  letI:Tab:=(TTx x q r1)
  have hip:=hipT x q r1
  refine wp_mono (runTo_sound (T:=(TTx x q r1)) (T':=(TTx x q r1)) (K:=K_top0) (n:=5000) tt.mixed (@K_top0_ok (TTx x q r1)) (C:=⟨17617,17637,ofPairs rlT,ipT⟩) (ex := .ret) (rl:=rlT) (vp:=[]) (fs:=[(10,.ptr 17617 0)]) (bs:=(bF 63))
    hb (by decide) rfl (by kernel_rfl) hip vpNil (glNone rfl rfl) (by as_aux_lemma=>kernel_rfl) s) ?_
  rintro e' a' w' ⟨rfl,s'⟩
  exact St.done (.inr rfl) (by kernel_rfl) s'
theorem ibL6:∀ x_∈([(15,.int .i64 1,.oi 0,.int .i64 64),(9,.oi 3,.int .i64 63,.bool true)]:List BRow),IbOk (ivT 6 2975 63) x_:=by
  letI:=Tab.empty
  exact (ibCons (ibShl (k := .i64) (k' := .i64) (a:=1) (b:=6) (c:=64) rfl rfl rfl (by decide) (by decide)) (ibCons (ibEq (a:=63) (b:=63) rfl rfl (decide_eq_true rfl)) ibNil))
abbrev RL6:VRows (ivT 6 2975 63) noV noK where
  vvp:=noVp
  ib:=[(15,.int .i64 1,.oi 0,.int .i64 64),(9,.oi 3,.int .i64 63,.bool true)]
  ibok:=ibL6
  ic:=[(.i32,.oi 0,.oi 1),(.i64,.oi 1,.oi 0)]
  icok:=icL (by decide) (by decide)
theorem cr6:@InOk Tryz.prog (CRo (bK 63)) (TTx 6 2975 63):=CR_ok (x:=6) (q:=2975) (r1:=63) 5 63 (by kernel_rfl) (by kernel_rfl) gq6 gt6 (by decide) (by decide) rfl rfl (by decide)
theorem bqq7:hOf 17637 (bQ 127)=hOf 17637 (bE 127):=hOf_congr (by kernel_rfl)
theorem gq7:GoQ 127 (bE 127):=by
  intro x q r1 B w0 μ a w r wd c0 c1 c2 nn rs W h3 h4 h5 h6 e1 e2 e3 hb s_
  have hip:=hipQ (x:=x) (q:=q) (r1:=r1) (r:=r) (wd:=wd) (c0:=c0) (c1:=c1) (c2:=c2) (nn:=nn) (rs:=rs) (W:=W) h3 h4 h5 h6 e1 e2 e3
  refine stepsTo_sound (T:=TDx (xx:=x) (r:=r) (wd:=wd) (c0:=c0) (c1:=c1) (c2:=c2) (nn:=nn) (rs:=rs) (W:=W) h3 h4 h5 h6) (T':=(TTx x q r1)) (K:=Hand.none) (m:=5000) tt.mixed (@HandOk.none (TDx (xx:=x) (r:=r) (wd:=wd) (c0:=c0) (c1:=c1) (c2:=c2) (nn:=nn) (rs:=rs) (W:=W) h3 h4 h5 h6) Tryz.prog) (C:=⟨17617,17637,ofPairs rlQ,ipQ⟩) (ex := .exit 0) (rl:=rlQ) (vp:=[]) (fs:=fsq) (bs:=(bQ 127))
    hb (by decide) rfl (by kernel_rfl) hip vpNil (glNone rfl rfl) (by as_aux_lemma=>kernel_rfl) (St.same (VRows.rsame _ _ _) s_) (fun a' w' q_=>⟨rfl,by rw [bqq7] at q_;exact q_⟩)
theorem gt7:Tail (bE 127) (bF 127):=by
  intro x q r1 B w0 μ a w hb s
  letI:Tab:=(TTx x q r1)
  have hip:=hipT x q r1
  refine wp_mono (runTo_sound (T:=(TTx x q r1)) (T':=(TTx x q r1)) (K:=K_top0) (n:=5000) tt.mixed (@K_top0_ok (TTx x q r1)) (C:=⟨17617,17637,ofPairs rlT,ipT⟩) (ex := .ret) (rl:=rlT) (vp:=[]) (fs:=[(10,.ptr 17617 0)]) (bs:=(bF 127))
    hb (by decide) rfl (by kernel_rfl) hip vpNil (glNone rfl rfl) (by as_aux_lemma=>kernel_rfl) s) ?_
  rintro e' a' w' ⟨rfl,s'⟩
  exact St.done (.inr rfl) (by kernel_rfl) s'
theorem ibL7:∀ x_∈([(15,.int .i64 1,.oi 0,.int .i64 128),(9,.oi 3,.int .i64 127,.bool true)]:List BRow),IbOk (ivT 7 5983 127) x_:=by
  letI:=Tab.empty
  exact (ibCons (ibShl (k := .i64) (k' := .i64) (a:=1) (b:=7) (c:=128) rfl rfl rfl (by decide) (by decide)) (ibCons (ibEq (a:=127) (b:=127) rfl rfl (decide_eq_true rfl)) ibNil))
abbrev RL7:VRows (ivT 7 5983 127) noV noK where
  vvp:=noVp
  ib:=[(15,.int .i64 1,.oi 0,.int .i64 128),(9,.oi 3,.int .i64 127,.bool true)]
  ibok:=ibL7
  ic:=[(.i32,.oi 0,.oi 1),(.i64,.oi 1,.oi 0)]
  icok:=icL (by decide) (by decide)
theorem cr7:@InOk Tryz.prog (CRo (bK 127)) (TTx 7 5983 127):=CR_ok (x:=7) (q:=5983) (r1:=127) 6 127 (by kernel_rfl) (by kernel_rfl) gq7 gt7 (by decide) (by decide) rfl rfl (by decide)
theorem bqq8:hOf 17637 (bQ 255)=hOf 17637 (bE 255):=hOf_congr (by kernel_rfl)
theorem gq8:GoQ 255 (bE 255):=by
  intro x q r1 B w0 μ a w r wd c0 c1 c2 nn rs W h3 h4 h5 h6 e1 e2 e3 hb s_
  have hip:=hipQ (x:=x) (q:=q) (r1:=r1) (r:=r) (wd:=wd) (c0:=c0) (c1:=c1) (c2:=c2) (nn:=nn) (rs:=rs) (W:=W) h3 h4 h5 h6 e1 e2 e3
  refine stepsTo_sound (T:=TDx (xx:=x) (r:=r) (wd:=wd) (c0:=c0) (c1:=c1) (c2:=c2) (nn:=nn) (rs:=rs) (W:=W) h3 h4 h5 h6) (T':=(TTx x q r1)) (K:=Hand.none) (m:=5000) tt.mixed (@HandOk.none (TDx (xx:=x) (r:=r) (wd:=wd) (c0:=c0) (c1:=c1) (c2:=c2) (nn:=nn) (rs:=rs) (W:=W) h3 h4 h5 h6) Tryz.prog) (C:=⟨17617,17637,ofPairs rlQ,ipQ⟩) (ex := .exit 0) (rl:=rlQ) (vp:=[]) (fs:=fsq) (bs:=(bQ 255))
    hb (by decide) rfl (by kernel_rfl) hip vpNil (glNone rfl rfl) (by as_aux_lemma=>kernel_rfl) (St.same (VRows.rsame _ _ _) s_) (fun a' w' q_=>⟨rfl,by rw [bqq8] at q_;exact q_⟩)
theorem gt8:Tail (bE 255) (bF 255):=by
  intro x q r1 B w0 μ a w hb s
  letI:Tab:=(TTx x q r1)
  have hip:=hipT x q r1
  refine wp_mono (runTo_sound (T:=(TTx x q r1)) (T':=(TTx x q r1)) (K:=K_top0) (n:=5000) tt.mixed (@K_top0_ok (TTx x q r1)) (C:=⟨17617,17637,ofPairs rlT,ipT⟩) (ex := .ret) (rl:=rlT) (vp:=[]) (fs:=[(10,.ptr 17617 0)]) (bs:=(bF 255))
    hb (by decide) rfl (by kernel_rfl) hip vpNil (glNone rfl rfl) (by as_aux_lemma=>kernel_rfl) s) ?_
  rintro e' a' w' ⟨rfl,s'⟩
  exact St.done (.inr rfl) (by kernel_rfl) s'
theorem ibL8:∀ x_∈([(15,.int .i64 1,.oi 0,.int .i64 256),(9,.oi 3,.int .i64 255,.bool true)]:List BRow),IbOk (ivT 8 11999 255) x_:=by
  letI:=Tab.empty
  exact (ibCons (ibShl (k := .i64) (k' := .i64) (a:=1) (b:=8) (c:=256) rfl rfl rfl (by decide) (by decide)) (ibCons (ibEq (a:=255) (b:=255) rfl rfl (decide_eq_true rfl)) ibNil))
abbrev RL8:VRows (ivT 8 11999 255) noV noK where
  vvp:=noVp
  ib:=[(15,.int .i64 1,.oi 0,.int .i64 256),(9,.oi 3,.int .i64 255,.bool true)]
  ibok:=ibL8
  ic:=[(.i32,.oi 0,.oi 1),(.i64,.oi 1,.oi 0)]
  icok:=icL (by decide) (by decide)
theorem cr8:@InOk Tryz.prog (CRo (bK 255)) (TTx 8 11999 255):=CR_ok (x:=8) (q:=11999) (r1:=255) 7 255 (by kernel_rfl) (by kernel_rfl) gq8 gt8 (by decide) (by decide) rfl rfl (by decide)
end Go.Proofs.YtnhgdcgeehcebaaGreatDoor.tv
