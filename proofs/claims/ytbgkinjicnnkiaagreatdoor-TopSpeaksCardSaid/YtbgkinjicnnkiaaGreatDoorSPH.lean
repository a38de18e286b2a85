/-
  Frames that are set aside while a call runs, and come back.
-/
import Derived.Test.YtbgkinjicnnkiaaGreatDoorSNN
import Derived.Test.YtbgkinjicnnkiaaGreatDoorSPS
import Derived.Test.YtbgkinjicnnkiaaGreatDoorXN3
import Derived.Test.YtbgkinjicnnkiaaGreatDoorSPX
import Derived.Test.YtbgkinjicnnkiaaGreatDoorProg
import Derived.KernelRfl
set_option linter.unusedSectionVars false
set_option linter.unusedVariables false
set_option maxRecDepth 1000000
set_option maxHeartbeats 0
namespace Go.Proofs.YtbgkinjicnnkiaaGreatDoor.sp
open Go.X Go.RowKit Go.Proofs.YtbgkinjicnnkiaaGreatDoor
theorem hOf_next {N : Nat} {bs : BS} : (hOf N bs).next = N := by unfold hOf; rw [fT_eq]
section
variable {B : Kp} {w0 w w1 : World} {μ0 : M} {a : Act}
def Hid_hideE (v : Int) (r : Int) (wd : Int) (c0 : Int) (s : Nat) (d : Nat) (o : Nat) (rv : Nat → Value) (B : Kp) (w0 : World) (μ0 : M) (w : World) (rv' : Nat → Value) (E : Nat → Prop) : Prop :=
  ∃ (μ : M) (lf : X.Loc) (LL : Nat → X.Loc), Ext μ0 μ ∧ @HR (PE2 v r wd c0 s d o rv) B w0 μ (hOf 30040 bsE2) w ∧ μ 30006 = some lf ∧ E = (fun j => j = lf.block) ∧ rv' = snap w LL ∧ μ 30001 = some (LL 0) ∧ μ 30002 = some (LL 1) ∧ μ 30003 = some (LL 2) ∧ μ 30004 = some (LL 3)
noncomputable abbrev rl_hideE : List (Nat × Nat) := [(30000, 30000), (30001, 30001), (30002, 30002), (30003, 30003), (30004, 30004), (30005, 30005)]
noncomputable abbrev ip_hideE : IP := [(.oi 0, 6), (.oi 1, 7), (.oi 2, 2), (.oi 3, 3), (.oi 4, 1), (.oi 5, 0), (.oi 7, 4)]
theorem hideE {v : Int} {r : Int} {wd : Int} {c0 : Int} {s : Nat} {d : Nat} {o : Nat} {rv : Nat → Value} (hb : Base B μ0 30000) (s_ : SE2 v r wd c0 s d o rv B w0 μ0 a w) : ∃ rv' E, Hid_hideE v r wd c0 s d o rv B w0 μ0 w rv' E ∧ SE (v) (r + 4) (wd + 7) (c0 + 4) (s + 1) (d + 1) (o) rv' (B.also E) w μ0 a w := by
  obtain ⟨μ, hx, f, r_⟩ := s_
  have g := fun x b h => @HR.blk (PE2 v r wd c0 s d o rv) B w0 μ (hOf 30040 bsE2) w r_ x b h
  obtain ⟨l0, m0, _⟩ := g 30001 (.vec 0) (by kernel_rfl)
  obtain ⟨l1, m1, _⟩ := g 30002 (.vec 1) (by kernel_rfl)
  obtain ⟨l2, m2, _⟩ := g 30003 (.vec 2) (by kernel_rfl)
  obtain ⟨l3, m3, _⟩ := g 30004 (.vec 3) (by kernel_rfl)
  obtain ⟨lf, mf, _⟩ := g 30006 kb42 (by kernel_rfl)
  let LL : Nat → X.Loc := fun c => match c with | 0 => l0 | 1 => l1 | 2 => l2 | _ => l3
  refine ⟨snap w LL, fun j => j = lf.block, ⟨μ, lf, LL, hx, r_, mf, rfl, rfl, m0, m1, m2, m3⟩, ?_⟩
  have hip : IpOk (PE2 v r wd c0 s d o rv) (PE (v) (r + 4) (wd + 7) (c0 + 4) (s + 1) (d + 1) (o) (snap w LL)) ip_hideE := (ipCons (ipN (.i64, ((s + 3 : Nat) : Int)) rfl (show (IntKind.i64, (((s + 1) + 2 : Nat) : Int)) = (IntKind.i64, ((s + 3 : Nat) : Int)) from Prod.ext rfl (show ((((s + 1) + 2 : Nat) : Int) : Int) = ((s + 3 : Nat) : Int) by omega))) (ipCons (ipN (.i64, ((d + 2 : Nat) : Int)) rfl (show (IntKind.i64, (((d + 1) + 1 : Nat) : Int)) = (IntKind.i64, ((d + 2 : Nat) : Int)) from Prod.ext rfl (show ((((d + 1) + 1 : Nat) : Int) : Int) = ((d + 2 : Nat) : Int) by omega))) (ipCons (ipN (.i64, wd + 7) rfl (show (IntKind.i64, (wd + 7)) = (IntKind.i64, wd + 7) from Prod.ext rfl (show ((wd + 7) : Int) = wd + 7 by omega))) (ipCons (ipN (.i64, c0 + 4) rfl (show (IntKind.i64, (c0 + 4)) = (IntKind.i64, c0 + 4) from Prod.ext rfl (show ((c0 + 4) : Int) = c0 + 4 by omega))) (ipCons (ipN (.i64, r + 4) rfl (show (IntKind.i64, (r + 4)) = (IntKind.i64, r + 4) from Prod.ext rfl (show ((r + 4) : Int) = r + 4 by omega))) (ipCons (ipN (.i64, v) rfl rfl) (ipCons (ipN (.i64, ((s + 1 : Nat) : Int)) rfl (show (IntKind.i64, (((s + 1) : Nat) : Int)) = (IntKind.i64, ((s + 1 : Nat) : Int)) from Prod.ext rfl (show ((((s + 1) : Nat) : Int) : Int) = ((s + 1 : Nat) : Int) by omega))) ipNil)))))))
  have hvp : ∀ p ∈ ([(30001, .vec 0, 0), (30002, .vec 1, 1), (30003, .vec 2, 2), (30004, .vec 3, 3)] : VP), own p.2.1 = true ∧ ∀ l, μ p.1 = some l → @brel (PE2 v r wd c0 s d o rv) μ p.2.1 l w → @brel (PE (v) (r + 4) (wd + 7) (c0 + 4) (s + 1) (d + 1) (o) (snap w LL)) (ren 30000 (ofPairs rl_hideE) μ) (.vec p.2.2) l w :=
    (allCons ⟨rfl, fun l hl hb_ => (by
    rw [m0] at hl; cases hl
    exact vec_hide (T := (PE2 v r wd c0 s d o rv)) (T' := (PE (v) (r + 4) (wd + 7) (c0 + 4) (s + 1) (d + 1) (o) (snap w LL))) (C := ⟨30000, 30040, ofPairs rl_hideE, ip_hideE⟩) (i := 0) (i' := 0) hip (c := 0) (L1 := [(iN 9)]) (L2 := [(iN 9), (oN 5)]) (LL := LL) (by decide) rfl rfl (by decide) rfl rfl (Nat.le_refl _) (by kernel_rfl) hb_)⟩
    (allCons ⟨rfl, fun l hl hb_ => (by
    rw [m1] at hl; cases hl
    exact vec_hide (T := (PE2 v r wd c0 s d o rv)) (T' := (PE (v) (r + 4) (wd + 7) (c0 + 4) (s + 1) (d + 1) (o) (snap w LL))) (C := ⟨30000, 30040, ofPairs rl_hideE, ip_hideE⟩) (i := 1) (i' := 1) hip (c := 1) (L1 := [bT]) (L2 := [bT, bF]) (LL := LL) (by decide) rfl rfl (by decide) rfl rfl (Nat.le_refl _) (by kernel_rfl) hb_)⟩
    (allCons ⟨rfl, fun l hl hb_ => (by
    rw [m2] at hl; cases hl
    exact vec_hide (T := (PE2 v r wd c0 s d o rv)) (T' := (PE (v) (r + 4) (wd + 7) (c0 + 4) (s + 1) (d + 1) (o) (snap w LL))) (C := ⟨30000, 30040, ofPairs rl_hideE, ip_hideE⟩) (i := 2) (i' := 2) hip (c := 2) (L1 := [z1, z1, (iN 18), (oN 6), z1, z2, z0]) (L2 := [z1, z1, z0, (oN 7), z1, z2, z1]) (LL := LL) (by decide) rfl rfl (by decide) rfl rfl (Nat.le_refl _) (by kernel_rfl) hb_)⟩
    (allCons ⟨rfl, fun l hl hb_ => (by
    rw [m3] at hl; cases hl
    exact vec_hide (T := (PE2 v r wd c0 s d o rv)) (T' := (PE (v) (r + 4) (wd + 7) (c0 + 4) (s + 1) (d + 1) (o) (snap w LL))) (C := ⟨30000, 30040, ofPairs rl_hideE, ip_hideE⟩) (i := 3) (i' := 3) hip (c := 3) (L1 := [(pN 30006)]) (L2 := [(pN 30005)]) (LL := LL) (by decide) rfl rfl (by decide) rfl rfl (Nat.le_refl _) (by kernel_rfl) hb_)⟩
    allNil))))
  obtain ⟨q1, q2, q3⟩ := HR.weakAt (T := (PE2 v r wd c0 s d o rv)) (T' := (PE (v) (r + 4) (wd + 7) (c0 + 4) (s + 1) (d + 1) (o) (snap w LL))) (C := ⟨30000, 30040, ofPairs rl_hideE, ip_hideE⟩) (rl := rl_hideE) hb (by decide) rfl (by kernel_rfl) hip (vp := [(30001, .vec 0, 0), (30002, .vec 1, 1), (30003, .vec 2, 2), (30004, .vec 3, 3)]) hvp (fs := fsR) (bs := bsE) (E := fun j => j = lf.block)
    (aside_of (x := 30006) r_ (by kernel_rfl : _ = some kb42) rfl mf (by decide)) (by kernel_rfl) (by kernel_rfl) hx f r_ (fun _ => glNone rfl rfl)
  exact ⟨_, q1, q2, q3⟩
noncomputable abbrev rl_unC0 : List (Nat × Nat) := [(30000, 30000), (30001, 30001), (30002, 30002), (30003, 30003), (30004, 30004), (30005, 30005), (30021, 30021), (30022, 30022), (30023, 30023), (30024, 30024), (30040, 30040)]
noncomputable abbrev ip_unC0 : IP := [(.oi 0, 6), (.oi 1, 7), (.oi 2, 1), (.oi 3, 2), (.oi 4, 0), (.oi 5, 4)]
noncomputable abbrev ip2_unC0 : IP := [(.oi 6, 3)]
theorem unC0 {v r wd c0 r1 w1_ b0 : Int} {s d o o1 : Nat} {rv rv' : Nat → Value} {E : Nat → Prop} (hM : ∃ l, μ0 14616 = some l) (hb : Base B μ0 30000) (hd : Hid_hideE v r wd c0 s d o rv B w0 μ0 w rv' E)
    (s_ : SR0 (r1) (w1_) (b0) (s + 1) (d + 1) (o1) rv' (B.also E) w μ0 a w1) : SC0 (r1) (w1_) (b0) (s) (d) (o1) rv B w0 μ0 a w1 := by
  letI : Tab := (PR0 (r1) (w1_) (b0) (s + 1) (d + 1) (o1) rv')
  obtain ⟨μ, lf, LL, hx, r_, mf, hE, hrv, m0, m1, m2, m3⟩ := hd
  obtain ⟨μ1, hx1, f1, r1_⟩ := s_
  have g := fun x b h => @HR.blk (PE2 v r wd c0 s d o rv) B w0 μ (hOf 30040 bsE2) w r_ x b h
  obtain ⟨l0, k0, _, _, b0_⟩ := g 30001 (.vec 0) (by kernel_rfl)
  obtain ⟨l1, k1, _, _, b1_⟩ := g 30002 (.vec 1) (by kernel_rfl)
  obtain ⟨l2, k2, _, _, b2_⟩ := g 30003 (.vec 2) (by kernel_rfl)
  obtain ⟨l3, k3, _, _, b3_⟩ := g 30004 (.vec 3) (by kernel_rfl)
  obtain ⟨lf2, kf, nf, _, bf⟩ := g 30006 kb42 (by kernel_rfl)
  rw [m0] at k0; cases k0
  rw [m1] at k1; cases k1
  rw [m2] at k2; cases k2
  rw [m3] at k3; cases k3
  rw [mf] at kf; cases kf
  have q0 := vec_was (c := 0) (L := [(iN 9), (iN 9), (oN 5)]) (LL := LL) (by decide) rfl rfl b0_
  have q1 := vec_was (c := 1) (L := [bT, bT, bF]) (LL := LL) (by decide) rfl rfl b1_
  have q2 := vec_was (c := 2) (L := [z1, z1, (iN 18), (oN 6), z1, z2, z0, z1, z1, z0, (oN 7), z1, z2, z1]) (LL := LL) (by decide) rfl rfl b2_
  have q3 := vec_was (c := 3) (L := [(pN 30006), (pN 30005)]) (LL := LL) (by decide) rfl rfl b3_
  have hEl : E lf.block := by rw [hE]
  have hext : Ext μ1 (upm μ1 30040 lf) := Ext.upm _ (@HR.fresh (PR0 (r1) (w1_) (b0) (s + 1) (d + 1) (o1) rv') _ _ _ _ _ r1_ 30040 (by rw [hOf_next]; exact Nat.le_refl _)).2
  have hbf : @brel (PR0 (r1) (w1_) (b0) (s + 1) (d + 1) (o1) rv') (upm μ1 30040 lf) kb42 lf w1 := brel_cells bf ((@HR.below (PR0 (r1) (w1_) (b0) (s + 1) (d + 1) (o1) rv') _ _ _ _ _ r1_).block _ (.inr hEl)) (fun i x hi hx_ y hy => by
    have h1 := cellOf_mem (L := [z2, z2, (pN 14616), z1, (iN 18), .nilp]) (by decide) hx_
    simp only [List.mem_cons, List.not_mem_nil, or_false] at h1
    obtain ⟨lm, hlm⟩ := hM
    rcases h1 with rfl | rfl | rfl | rfl | rfl | rfl <;> simp only [vrel] at hy ⊢ <;> first | exact hy | (obtain ⟨l5, h6, h7⟩ := hy; rw [hx _ _ hlm] at h6; cases h6; exact ⟨lm, hext _ _ (hx1 _ _ hlm), h7⟩))
  have r2 := HR.addBack (T1 := (PR0 (r1) (w1_) (b0) (s + 1) (d + 1) (o1) rv')) r_ (nf rfl) rfl hEl r1_ (by rw [hOf_next]; decide) (by rw [hOf_next]; exact hbf) (glNone rfl rfl)
  rw [hOf_next] at r2
  have hip : IpOk (PR0 (r1) (w1_) (b0) (s + 1) (d + 1) (o1) rv') (PC0 (r1) (w1_) (b0) (s) (d) (o1) rv) ip_unC0 := (ipCons (ipN (.i64, (((s + 1) + 2 : Nat) : Int)) rfl (show (IntKind.i64, ((s + 3 : Nat) : Int)) = (IntKind.i64, (((s + 1) + 2 : Nat) : Int)) from Prod.ext rfl (show (((s + 3 : Nat) : Int) : Int) = (((s + 1) + 2 : Nat) : Int) by omega))) (ipCons (ipN (.i64, (((d + 1) + 1 : Nat) : Int)) rfl (show (IntKind.i64, ((d + 2 : Nat) : Int)) = (IntKind.i64, (((d + 1) + 1 : Nat) : Int)) from Prod.ext rfl (show (((d + 2 : Nat) : Int) : Int) = (((d + 1) + 1 : Nat) : Int) by omega))) (ipCons (ipN (.i64, w1_) rfl rfl) (ipCons (ipN (.i64, b0) rfl rfl) (ipCons (ipN (.i64, r1) rfl rfl) (ipCons (ipN (.i64, (((s + 1) : Nat) : Int)) rfl (show (IntKind.i64, ((s + 1 : Nat) : Int)) = (IntKind.i64, (((s + 1) : Nat) : Int)) from Prod.ext rfl (show (((s + 1 : Nat) : Int) : Int) = (((s + 1) : Nat) : Int) by omega))) ipNil))))))
  have hip2 : IpOk (PE2 v r wd c0 s d o rv) (PC0 (r1) (w1_) (b0) (s) (d) (o1) rv) ip2_unC0 := (ipCons (ipN (.i64, ((s : Nat) : Int)) rfl rfl) ipNil)
  have hvp : ∀ p ∈ ([(30001, .vec 0, 0), (30002, .vec 1, 1), (30003, .vec 2, 2), (30004, .vec 3, 3)] : VP), own p.2.1 = true ∧ ∀ l, (upm μ1 30040 lf) p.1 = some l → @brel (PR0 (r1) (w1_) (b0) (s + 1) (d + 1) (o1) rv') (upm μ1 30040 lf) p.2.1 l w1 → @brel (PC0 (r1) (w1_) (b0) (s) (d) (o1) rv) (ren 30000 (ofPairs rl_unC0) (upm μ1 30040 lf)) (.vec p.2.2) l w1 :=
    (allCons ⟨rfl, fun l hl hb_ => vec_unhide (T1 := (PR0 (r1) (w1_) (b0) (s + 1) (d + 1) (o1) rv')) (T2 := (PC0 (r1) (w1_) (b0) (s) (d) (o1) rv)) (C := ⟨30000, 30041, ofPairs rl_unC0, ip_unC0⟩) (i1 := 0) (i2 := 0) hip (c := 0) (n := 1) (L2 := [(iN 9), (iN 11)]) (L1' := [(iN 9)]) (L2' := [(iN 9), (iN 11)]) rfl rfl rfl (fun m hm => (by show rv' _ = rv _; rw [hrv]; exact q0.1 m hm)) (by rw [show ((PR0 (r1) (w1_) (b0) (s + 1) (d + 1) (o1) rv')).rv = snap w LL from hrv]; exact fun m x hx => (by
      obtain ⟨x0, k1, k2⟩ := cvL_get (C := ⟨30000, 30041, ofPairs [], ip2_unC0⟩) (l := [(iN 9), (iN 9), (oN 5)]) (by kernel_rfl) m x hx
      exact @vrel.plain (PC0 (r1) (w1_) (b0) (s) (d) (o1) rv) _ _ x _ (List.all_eq_true.1 (by rfl : ([(iN 9)] : List AV).all plain = true) x (List.mem_of_getElem? hx)) (cvV_sound (T := (PE2 v r wd c0 s d o rv)) (T' := (PC0 (r1) (w1_) (b0) (s) (d) (o1) rv)) hip2 k2 (q0.2 m x0 k1)))) (Nat.le_refl _) (by kernel_rfl) hb_⟩
    (allCons ⟨rfl, fun l hl hb_ => vec_unhide (T1 := (PR0 (r1) (w1_) (b0) (s + 1) (d + 1) (o1) rv')) (T2 := (PC0 (r1) (w1_) (b0) (s) (d) (o1) rv)) (C := ⟨30000, 30041, ofPairs rl_unC0, ip_unC0⟩) (i1 := 1) (i2 := 1) hip (c := 1) (n := 1) (L2 := [bT, bT]) (L1' := [bT]) (L2' := [bT, bT]) rfl rfl rfl (fun m hm => (by show rv' _ = rv _; rw [hrv]; exact q1.1 m hm)) (by rw [show ((PR0 (r1) (w1_) (b0) (s + 1) (d + 1) (o1) rv')).rv = snap w LL from hrv]; exact fun m x hx => (by
      obtain ⟨x0, k1, k2⟩ := cvL_get (C := ⟨30000, 30041, ofPairs [], ip2_unC0⟩) (l := [bT, bT, bF]) (by kernel_rfl) m x hx
      exact @vrel.plain (PC0 (r1) (w1_) (b0) (s) (d) (o1) rv) _ _ x _ (List.all_eq_true.1 (by rfl : ([bT] : List AV).all plain = true) x (List.mem_of_getElem? hx)) (cvV_sound (T := (PE2 v r wd c0 s d o rv)) (T' := (PC0 (r1) (w1_) (b0) (s) (d) (o1) rv)) hip2 k2 (q1.2 m x0 k1)))) (Nat.le_refl _) (by kernel_rfl) hb_⟩
    (allCons ⟨rfl, fun l hl hb_ => vec_unhide (T1 := (PR0 (r1) (w1_) (b0) (s + 1) (d + 1) (o1) rv')) (T2 := (PC0 (r1) (w1_) (b0) (s) (d) (o1) rv)) (C := ⟨30000, 30041, ofPairs rl_unC0, ip_unC0⟩) (i1 := 2) (i2 := 2) hip (c := 2) (n := 7) (L2 := [z1, z1, (iN 21), (oN 5), z1, z2, z1]) (L1' := [z1, z1, (iN 18), (oN 3), z1, z2, z0]) (L2' := [z1, z1, (iN 21), (oN 4), z1, z2, z1]) rfl rfl rfl (fun m hm => (by show rv' _ = rv _; rw [hrv]; exact q2.1 m hm)) (by rw [show ((PR0 (r1) (w1_) (b0) (s + 1) (d + 1) (o1) rv')).rv = snap w LL from hrv]; exact fun m x hx => (by
      obtain ⟨x0, k1, k2⟩ := cvL_get (C := ⟨30000, 30041, ofPairs [], ip2_unC0⟩) (l := [z1, z1, (iN 18), (oN 6), z1, z2, z0, z1, z1, z0, (oN 7), z1, z2, z1]) (by kernel_rfl) m x hx
      exact @vrel.plain (PC0 (r1) (w1_) (b0) (s) (d) (o1) rv) _ _ x _ (List.all_eq_true.1 (by rfl : ([z1, z1, (iN 18), (oN 3), z1, z2, z0] : List AV).all plain = true) x (List.mem_of_getElem? hx)) (cvV_sound (T := (PE2 v r wd c0 s d o rv)) (T' := (PC0 (r1) (w1_) (b0) (s) (d) (o1) rv)) hip2 k2 (q2.2 m x0 k1)))) (Nat.le_refl _) (by kernel_rfl) hb_⟩
    (allCons ⟨rfl, fun l hl hb_ => vec_unhide (T1 := (PR0 (r1) (w1_) (b0) (s + 1) (d + 1) (o1) rv')) (T2 := (PC0 (r1) (w1_) (b0) (s) (d) (o1) rv)) (C := ⟨30000, 30041, ofPairs rl_unC0, ip_unC0⟩) (i1 := 3) (i2 := 3) hip (c := 3) (n := 1) (L2 := [(pN 30005)]) (L1' := [(pN 30040)]) (L2' := [(pN 30005)]) rfl rfl rfl (fun m hm => (by show rv' _ = rv _; rw [hrv]; exact q3.1 m hm)) (by rw [show ((PR0 (r1) (w1_) (b0) (s + 1) (d + 1) (o1) rv')).rv = snap w LL from hrv]; exact fun m x hx => (by
      cases m with
      | succ m => simp at hx
      | zero =>
        cases hx
        have h5 := q3.2 0 (pN 30006) rfl
        simp only [vrel] at h5 ⊢
        obtain ⟨l5, h6, h7⟩ := h5
        rw [mf] at h6; cases h6
        exact ⟨lf, (by show (ofPairs rl_unC0).get 30040 >>= upm μ1 30040 lf = some lf; rfl), h7⟩)) (Nat.le_refl _) (by kernel_rfl) hb_⟩
    allNil))))
  obtain ⟨p1, p2, p3⟩ := HR.weakIn (T := (PR0 (r1) (w1_) (b0) (s + 1) (d + 1) (o1) rv')) (T' := (PC0 (r1) (w1_) (b0) (s) (d) (o1) rv)) (C := ⟨30000, 30041, ofPairs rl_unC0, ip_unC0⟩) (rl := rl_unC0) hb (by decide) rfl (by kernel_rfl) hip (vp := [(30001, .vec 0, 0), (30002, .vec 1, 1), (30003, .vec 2, 2), (30004, .vec 3, 3)]) hvp (fs := fsR) (bs := bsC0) (by kernel_rfl) (by kernel_rfl) (hx1.trans hext) (f1.ext hext) r2 (glNone rfl rfl)
  exact ⟨_, p1, p2, p3⟩
noncomputable abbrev rl_unC : List (Nat × Nat) := [(30000, 30000), (30001, 30001), (30002, 30002), (30003, 30003), (30004, 30004), (30005, 30005), (30020, 30020), (30021, 30021), (30022, 30022), (30023, 30023), (30024, 30024), (30040, 30040)]
noncomputable abbrev ip_unC : IP := [(.oi 0, 5), (.oi 1, 7), (.oi 2, 8), (.oi 3, 1), (.oi 4, 2), (.oi 5, 0), (.oi 6, 4)]
noncomputable abbrev ip2_unC : IP := [(.oi 6, 3)]
theorem unC {v r wd c0 r1 w1_ b0 : Int} {s d o o1 : Nat} {rv rv' : Nat → Value} {E : Nat → Prop} (hM : ∃ l, μ0 14616 = some l) (hb : Base B μ0 30000) (hd : Hid_hideE v r wd c0 s d o rv B w0 μ0 w rv' E)
    (s_ : SR (r1) (w1_) (b0) (s + 1) (d + 1) (o1) rv' (B.also E) w μ0 a w1) : SC (r1) (w1_) (b0) (s) (d) (o1) rv B w0 μ0 a w1 := by
  letI : Tab := (PR (r1) (w1_) (b0) (s + 1) (d + 1) (o1) rv')
  obtain ⟨μ, lf, LL, hx, r_, mf, hE, hrv, m0, m1, m2, m3⟩ := hd
  obtain ⟨μ1, hx1, f1, r1_⟩ := s_
  have g := fun x b h => @HR.blk (PE2 v r wd c0 s d o rv) B w0 μ (hOf 30040 bsE2) w r_ x b h
  obtain ⟨l0, k0, _, _, b0_⟩ := g 30001 (.vec 0) (by kernel_rfl)
  obtain ⟨l1, k1, _, _, b1_⟩ := g 30002 (.vec 1) (by kernel_rfl)
  obtain ⟨l2, k2, _, _, b2_⟩ := g 30003 (.vec 2) (by kernel_rfl)
  obtain ⟨l3, k3, _, _, b3_⟩ := g 30004 (.vec 3) (by kernel_rfl)
  obtain ⟨lf2, kf, nf, _, bf⟩ := g 30006 kb42 (by kernel_rfl)
  rw [m0] at k0; cases k0
  rw [m1] at k1; cases k1
  rw [m2] at k2; cases k2
  rw [m3] at k3; cases k3
  rw [mf] at kf; cases kf
  have q0 := vec_was (c := 0) (L := [(iN 9), (iN 9), (oN 5)]) (LL := LL) (by decide) rfl rfl b0_
  have q1 := vec_was (c := 1) (L := [bT, bT, bF]) (LL := LL) (by decide) rfl rfl b1_
  have q2 := vec_was (c := 2) (L := [z1, z1, (iN 18), (oN 6), z1, z2, z0, z1, z1, z0, (oN 7), z1, z2, z1]) (LL := LL) (by decide) rfl rfl b2_
  have q3 := vec_was (c := 3) (L := [(pN 30006), (pN 30005)]) (LL := LL) (by decide) rfl rfl b3_
  have hEl : E lf.block := by rw [hE]
  have hext : Ext μ1 (upm μ1 30040 lf) := Ext.upm _ (@HR.fresh (PR (r1) (w1_) (b0) (s + 1) (d + 1) (o1) rv') _ _ _ _ _ r1_ 30040 (by rw [hOf_next]; exact Nat.le_refl _)).2
  have hbf : @brel (PR (r1) (w1_) (b0) (s + 1) (d + 1) (o1) rv') (upm μ1 30040 lf) kb42 lf w1 := brel_cells bf ((@HR.below (PR (r1) (w1_) (b0) (s + 1) (d + 1) (o1) rv') _ _ _ _ _ r1_).block _ (.inr hEl)) (fun i x hi hx_ y hy => by
    have h1 := cellOf_mem (L := [z2, z2, (pN 14616), z1, (iN 18), .nilp]) (by decide) hx_
    simp only [List.mem_cons, List.not_mem_nil, or_false] at h1
    obtain ⟨lm, hlm⟩ := hM
    rcases h1 with rfl | rfl | rfl | rfl | rfl | rfl <;> simp only [vrel] at hy ⊢ <;> first | exact hy | (obtain ⟨l5, h6, h7⟩ := hy; rw [hx _ _ hlm] at h6; cases h6; exact ⟨lm, hext _ _ (hx1 _ _ hlm), h7⟩))
  have r2 := HR.addBack (T1 := (PR (r1) (w1_) (b0) (s + 1) (d + 1) (o1) rv')) r_ (nf rfl) rfl hEl r1_ (by rw [hOf_next]; decide) (by rw [hOf_next]; exact hbf) (glNone rfl rfl)
  rw [hOf_next] at r2
  have hip : IpOk (PR (r1) (w1_) (b0) (s + 1) (d + 1) (o1) rv') (PC (r1) (w1_) (b0) (s) (d) (o1) rv) ip_unC := (ipCons (ipN (.i64, ((o1 : Nat) : Int)) rfl rfl) (ipCons (ipN (.i64, (((s + 1) + 2 : Nat) : Int)) rfl (show (IntKind.i64, ((s + 3 : Nat) : Int)) = (IntKind.i64, (((s + 1) + 2 : Nat) : Int)) from Prod.ext rfl (show (((s + 3 : Nat) : Int) : Int) = (((s + 1) + 2 : Nat) : Int) by omega))) (ipCons (ipN (.i64, (((d + 1) + 1 : Nat) : Int)) rfl (show (IntKind.i64, ((d + 2 : Nat) : Int)) = (IntKind.i64, (((d + 1) + 1 : Nat) : Int)) from Prod.ext rfl (show (((d + 2 : Nat) : Int) : Int) = (((d + 1) + 1 : Nat) : Int) by omega))) (ipCons (ipN (.i64, w1_) rfl rfl) (ipCons (ipN (.i64, b0) rfl rfl) (ipCons (ipN (.i64, r1) rfl rfl) (ipCons (ipN (.i64, (((s + 1) : Nat) : Int)) rfl (show (IntKind.i64, ((s + 1 : Nat) : Int)) = (IntKind.i64, (((s + 1) : Nat) : Int)) from Prod.ext rfl (show (((s + 1 : Nat) : Int) : Int) = (((s + 1) : Nat) : Int) by omega))) ipNil)))))))
  have hip2 : IpOk (PE2 v r wd c0 s d o rv) (PC (r1) (w1_) (b0) (s) (d) (o1) rv) ip2_unC := (ipCons (ipN (.i64, ((s : Nat) : Int)) rfl rfl) ipNil)
  have hvp : ∀ p ∈ ([(30001, .vec 0, 1), (30002, .vec 1, 2), (30003, .vec 2, 3), (30004, .vec 3, 4), (30020, .vec 4, 0)] : VP), own p.2.1 = true ∧ ∀ l, (upm μ1 30040 lf) p.1 = some l → @brel (PR (r1) (w1_) (b0) (s + 1) (d + 1) (o1) rv') (upm μ1 30040 lf) p.2.1 l w1 → @brel (PC (r1) (w1_) (b0) (s) (d) (o1) rv) (ren 30000 (ofPairs rl_unC) (upm μ1 30040 lf)) (.vec p.2.2) l w1 :=
    (allCons ⟨rfl, fun l hl hb_ => vec_unhide (T1 := (PR (r1) (w1_) (b0) (s + 1) (d + 1) (o1) rv')) (T2 := (PC (r1) (w1_) (b0) (s) (d) (o1) rv)) (C := ⟨30000, 30041, ofPairs rl_unC, ip_unC⟩) (i1 := 0) (i2 := 1) hip (c := 0) (n := 1) (L2 := [(iN 9), (iN 11)]) (L1' := [(iN 9)]) (L2' := [(iN 9), (iN 11)]) rfl rfl rfl (fun m hm => (by show rv' _ = rv _; rw [hrv]; exact q0.1 m hm)) (by rw [show ((PR (r1) (w1_) (b0) (s + 1) (d + 1) (o1) rv')).rv = snap w LL from hrv]; exact fun m x hx => (by
      obtain ⟨x0, k1, k2⟩ := cvL_get (C := ⟨30000, 30041, ofPairs [], ip2_unC⟩) (l := [(iN 9), (iN 9), (oN 5)]) (by kernel_rfl) m x hx
      exact @vrel.plain (PC (r1) (w1_) (b0) (s) (d) (o1) rv) _ _ x _ (List.all_eq_true.1 (by rfl : ([(iN 9)] : List AV).all plain = true) x (List.mem_of_getElem? hx)) (cvV_sound (T := (PE2 v r wd c0 s d o rv)) (T' := (PC (r1) (w1_) (b0) (s) (d) (o1) rv)) hip2 k2 (q0.2 m x0 k1)))) (Nat.le_refl _) (by kernel_rfl) hb_⟩
    (allCons ⟨rfl, fun l hl hb_ => vec_unhide (T1 := (PR (r1) (w1_) (b0) (s + 1) (d + 1) (o1) rv')) (T2 := (PC (r1) (w1_) (b0) (s) (d) (o1) rv)) (C := ⟨30000, 30041, ofPairs rl_unC, ip_unC⟩) (i1 := 1) (i2 := 2) hip (c := 1) (n := 1) (L2 := [bT, bT]) (L1' := [bT]) (L2' := [bT, bT]) rfl rfl rfl (fun m hm => (by show rv' _ = rv _; rw [hrv]; exact q1.1 m hm)) (by rw [show ((PR (r1) (w1_) (b0) (s + 1) (d + 1) (o1) rv')).rv = snap w LL from hrv]; exact fun m x hx => (by
      obtain ⟨x0, k1, k2⟩ := cvL_get (C := ⟨30000, 30041, ofPairs [], ip2_unC⟩) (l := [bT, bT, bF]) (by kernel_rfl) m x hx
      exact @vrel.plain (PC (r1) (w1_) (b0) (s) (d) (o1) rv) _ _ x _ (List.all_eq_true.1 (by rfl : ([bT] : List AV).all plain = true) x (List.mem_of_getElem? hx)) (cvV_sound (T := (PE2 v r wd c0 s d o rv)) (T' := (PC (r1) (w1_) (b0) (s) (d) (o1) rv)) hip2 k2 (q1.2 m x0 k1)))) (Nat.le_refl _) (by kernel_rfl) hb_⟩
    (allCons ⟨rfl, fun l hl hb_ => vec_unhide (T1 := (PR (r1) (w1_) (b0) (s + 1) (d + 1) (o1) rv')) (T2 := (PC (r1) (w1_) (b0) (s) (d) (o1) rv)) (C := ⟨30000, 30041, ofPairs rl_unC, ip_unC⟩) (i1 := 2) (i2 := 3) hip (c := 2) (n := 7) (L2 := [z1, z1, (iN 21), (oN 6), z1, z2, z1]) (L1' := [z1, z1, (iN 18), (oN 3), z1, z2, z0]) (L2' := [z1, z1, (iN 21), (oN 4), z1, z2, z1]) rfl rfl rfl (fun m hm => (by show rv' _ = rv _; rw [hrv]; exact q2.1 m hm)) (by rw [show ((PR (r1) (w1_) (b0) (s + 1) (d + 1) (o1) rv')).rv = snap w LL from hrv]; exact fun m x hx => (by
      obtain ⟨x0, k1, k2⟩ := cvL_get (C := ⟨30000, 30041, ofPairs [], ip2_unC⟩) (l := [z1, z1, (iN 18), (oN 6), z1, z2, z0, z1, z1, z0, (oN 7), z1, z2, z1]) (by kernel_rfl) m x hx
      exact @vrel.plain (PC (r1) (w1_) (b0) (s) (d) (o1) rv) _ _ x _ (List.all_eq_true.1 (by rfl : ([z1, z1, (iN 18), (oN 3), z1, z2, z0] : List AV).all plain = true) x (List.mem_of_getElem? hx)) (cvV_sound (T := (PE2 v r wd c0 s d o rv)) (T' := (PC (r1) (w1_) (b0) (s) (d) (o1) rv)) hip2 k2 (q2.2 m x0 k1)))) (Nat.le_refl _) (by kernel_rfl) hb_⟩
    (allCons ⟨rfl, fun l hl hb_ => vec_unhide (T1 := (PR (r1) (w1_) (b0) (s + 1) (d + 1) (o1) rv')) (T2 := (PC (r1) (w1_) (b0) (s) (d) (o1) rv)) (C := ⟨30000, 30041, ofPairs rl_unC, ip_unC⟩) (i1 := 3) (i2 := 4) hip (c := 3) (n := 1) (L2 := [(pN 30005)]) (L1' := [(pN 30040)]) (L2' := [(pN 30005)]) rfl rfl rfl (fun m hm => (by show rv' _ = rv _; rw [hrv]; exact q3.1 m hm)) (by rw [show ((PR (r1) (w1_) (b0) (s + 1) (d + 1) (o1) rv')).rv = snap w LL from hrv]; exact fun m x hx => (by
      cases m with
      | succ m => simp at hx
      | zero =>
        cases hx
        have h5 := q3.2 0 (pN 30006) rfl
        simp only [vrel] at h5 ⊢
        obtain ⟨l5, h6, h7⟩ := h5
        rw [mf] at h6; cases h6
        exact ⟨lf, (by show (ofPairs rl_unC).get 30040 >>= upm μ1 30040 lf = some lf; rfl), h7⟩)) (Nat.le_refl _) (by kernel_rfl) hb_⟩
    (allCons ⟨rfl, fun l hl hb_ => (vpG (T := (PR (r1) (w1_) (b0) (s + 1) (d + 1) (o1) rv')) (T' := (PC (r1) (w1_) (b0) (s) (d) (o1) rv)) (C := ⟨30000, 30041, ofPairs rl_unC, ip_unC⟩) (i := 4) (i' := 0) hip 0 (g := bs.outG) (L := []) (L' := []) rfl rfl bs.outG_int (Nat.le_refl _) bs.noZero (by kernel_rfl)).2 _ l w1 hb_⟩
    allNil)))))
  obtain ⟨p1, p2, p3⟩ := HR.weakIn (T := (PR (r1) (w1_) (b0) (s + 1) (d + 1) (o1) rv')) (T' := (PC (r1) (w1_) (b0) (s) (d) (o1) rv)) (C := ⟨30000, 30041, ofPairs rl_unC, ip_unC⟩) (rl := rl_unC) hb (by decide) rfl (by kernel_rfl) hip (vp := [(30001, .vec 0, 1), (30002, .vec 1, 2), (30003, .vec 2, 3), (30004, .vec 3, 4), (30020, .vec 4, 0)]) hvp (fs := fsR) (bs := bsC) (by kernel_rfl) (by kernel_rfl) (hx1.trans hext) (f1.ext hext) r2 (glNone rfl rfl)
  exact ⟨_, p1, p2, p3⟩
end
end Go.Proofs.YtbgkinjicnnkiaaGreatDoor.sp
