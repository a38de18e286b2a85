/-
  The lowest frame, set aside and back.
-/
import Derived.Test.YtbgkinjicnnkiaaGreatDoorSNN
import Derived.Test.YtbgkinjicnnkiaaGreatDoorSPT
import Derived.Test.YtbgkinjicnnkiaaGreatDoorXN3
import Derived.Test.YtbgkinjicnnkiaaGreatDoorSPX
import Derived.Test.YtbgkinjicnnkiaaGreatDoorProg
import Derived.KernelRfl
set_option linter.unusedSectionVars false
set_option linter.unusedVariables false
set_option maxRecDepth 1000000
set_option maxHeartbeats 0
namespace Go.Proofs.YtbgkinjicnnkiaaGreatDoor.sp
open Go.X Go.RowKit Go.Proofs.YtbgkinjicnnkiaaGreatDoor
section
variable {B : Kp} {w0 w w1 : World} {μ μ0 : M} {a : Act}
def Hid_hideS (v : Int) (s : Nat) (d : Nat) (o : Nat) (rv : Nat → Value) (B : Kp) (w0 : World) (μ0 : M) (w : World) (rv' : Nat → Value) (E : Nat → Prop) : Prop :=
  ∃ (μ : M) (lf : X.Loc) (LL : Nat → X.Loc), Ext μ0 μ ∧ @HR (PE2s v s d o rv) B w0 μ (hOf 30040 bsE2s) w ∧ μ 30006 = some lf ∧ E = (fun j => j = lf.block) ∧ rv' = snap w LL ∧ μ 30001 = some (LL 0) ∧ μ 30002 = some (LL 1) ∧ μ 30003 = some (LL 2) ∧ μ 30004 = some (LL 3)
noncomputable abbrev rl_hideS : List (Nat × Nat) := [(30000, 30000), (30001, 30001), (30002, 30002), (30003, 30003), (30004, 30004), (30005, 30005)]
noncomputable abbrev ip_hideS : IP := [(.oi 0, 6), (.oi 1, 7), (.int .i64 15, 2), (.int .i64 1, 3), (.int .i64 11, 1), (.oi 2, 0), (.int .i64 1, 4)]
theorem hideS {v : Int} {s : Nat} {d : Nat} {o : Nat} {rv : Nat → Value} (hb : Base B μ0 30000) (s_ : SE2s v s d o rv B w0 μ0 a w) : ∃ rv' E, Hid_hideS v s d o rv B w0 μ0 w rv' E ∧ SE (v) (11) (15) (1) (0 + 1) (0 + 1) (o) rv' (B.also E) w μ0 a w := by
  obtain ⟨μ, hx, f, r_⟩ := s_
  have g := fun x b h => @HR.blk (PE2s v s d o rv) B w0 μ (hOf 30040 bsE2s) w r_ x b h
  obtain ⟨l0, m0, _⟩ := g 30001 (.vec 0) (by kernel_rfl)
  obtain ⟨l1, m1, _⟩ := g 30002 (.vec 1) (by kernel_rfl)
  obtain ⟨l2, m2, _⟩ := g 30003 (.vec 2) (by kernel_rfl)
  obtain ⟨l3, m3, _⟩ := g 30004 (.vec 3) (by kernel_rfl)
  obtain ⟨lf, mf, _⟩ := g 30006 kd50 (by kernel_rfl)
  let LL : Nat → X.Loc := fun c => match c with | 0 => l0 | 1 => l1 | 2 => l2 | _ => l3
  refine ⟨snap w LL, fun j => j = lf.block, ⟨μ, lf, LL, hx, r_, mf, rfl, rfl, m0, m1, m2, m3⟩, ?_⟩
  have hip : IpOk (PE2s v s d o rv) (PE (v) (11) (15) (1) (0 + 1) (0 + 1) (o) (snap w LL)) ip_hideS := (ipCons (ipN (.i64, ((3 : Nat) : Int)) rfl (show (IntKind.i64, (((0 + 1) + 2 : Nat) : Int)) = (IntKind.i64, ((3 : Nat) : Int)) from Prod.ext rfl (show ((((0 + 1) + 2 : Nat) : Int) : Int) = ((3 : Nat) : Int) by omega))) (ipCons (ipN (.i64, ((2 : Nat) : Int)) rfl (show (IntKind.i64, (((0 + 1) + 1 : Nat) : Int)) = (IntKind.i64, ((2 : Nat) : Int)) from Prod.ext rfl (show ((((0 + 1) + 1 : Nat) : Int) : Int) = ((2 : Nat) : Int) by omega))) (ipCons (ipK (show (IntKind.i64, 15) = (IntKind.i64, 15) from Prod.ext rfl (show (15 : Int) = 15 by omega))) (ipCons (ipK (show (IntKind.i64, 1) = (IntKind.i64, 1) from Prod.ext rfl (show (1 : Int) = 1 by omega))) (ipCons (ipK (show (IntKind.i64, 11) = (IntKind.i64, 11) from Prod.ext rfl (show (11 : Int) = 11 by omega))) (ipCons (ipN (.i64, v) rfl rfl) (ipCons (ipK (show (IntKind.i64, (((0 + 1) : Nat) : Int)) = (IntKind.i64, 1) from Prod.ext rfl (show ((((0 + 1) : Nat) : Int) : Int) = 1 by omega))) ipNil)))))))
  have hvp : ∀ p ∈ ([(30001, .vec 0, 0), (30002, .vec 1, 1), (30003, .vec 2, 2), (30004, .vec 3, 3)] : VP), own p.2.1 = true ∧ ∀ l, μ p.1 = some l → @brel (PE2s v s d o rv) μ p.2.1 l w → @brel (PE (v) (11) (15) (1) (0 + 1) (0 + 1) (o) (snap w LL)) (ren 30000 (ofPairs rl_hideS) μ) (.vec p.2.2) l w :=
    (allCons ⟨rfl, fun l hl hb_ => (by
    rw [m0] at hl; cases hl
    exact vec_hide (T := (PE2s v s d o rv)) (T' := (PE (v) (11) (15) (1) (0 + 1) (0 + 1) (o) (snap w LL))) (C := ⟨30000, 30040, ofPairs rl_hideS, ip_hideS⟩) (i := 0) (i' := 0) hip (c := 0) (L1 := [(oN 2)]) (L2 := [(iN 9), (oN 2)]) (LL := LL) (by decide) rfl rfl (by decide) rfl rfl (Nat.le_refl _) (by kernel_rfl) hb_)⟩
    (allCons ⟨rfl, fun l hl hb_ => (by
    rw [m1] at hl; cases hl
    exact vec_hide (T := (PE2s v s d o rv)) (T' := (PE (v) (11) (15) (1) (0 + 1) (0 + 1) (o) (snap w LL))) (C := ⟨30000, 30040, ofPairs rl_hideS, ip_hideS⟩) (i := 1) (i' := 1) hip (c := 1) (L1 := [bF]) (L2 := [bT, bF]) (LL := LL) (by decide) rfl rfl (by decide) rfl rfl (Nat.le_refl _) (by kernel_rfl) hb_)⟩
    (allCons ⟨rfl, fun l hl hb_ => (by
    rw [m2] at hl; cases hl
    exact vec_hide (T := (PE2s v s d o rv)) (T' := (PE (v) (11) (15) (1) (0 + 1) (0 + 1) (o) (snap w LL))) (C := ⟨30000, 30040, ofPairs rl_hideS, ip_hideS⟩) (i := 2) (i' := 2) hip (c := 2) (L1 := [z0, z0, (iN 14), z0, z1, (iN 3), z0]) (L2 := [z1, z1, z0, z1, z1, z2, z1]) (LL := LL) (by decide) rfl rfl (by decide) rfl rfl (Nat.le_refl _) (by kernel_rfl) hb_)⟩
    (allCons ⟨rfl, fun l hl hb_ => (by
    rw [m3] at hl; cases hl
    exact vec_hide (T := (PE2s v s d o rv)) (T' := (PE (v) (11) (15) (1) (0 + 1) (0 + 1) (o) (snap w LL))) (C := ⟨30000, 30040, ofPairs rl_hideS, ip_hideS⟩) (i := 3) (i' := 3) hip (c := 3) (L1 := [(pN 30006)]) (L2 := [(pN 30005)]) (LL := LL) (by decide) rfl rfl (by decide) rfl rfl (Nat.le_refl _) (by kernel_rfl) hb_)⟩
    allNil))))
  obtain ⟨q1, q2, q3⟩ := HR.weakAt (T := (PE2s v s d o rv)) (T' := (PE (v) (11) (15) (1) (0 + 1) (0 + 1) (o) (snap w LL))) (C := ⟨30000, 30040, ofPairs rl_hideS, ip_hideS⟩) (rl := rl_hideS) hb (by decide) rfl (by kernel_rfl) hip (vp := [(30001, .vec 0, 0), (30002, .vec 1, 1), (30003, .vec 2, 2), (30004, .vec 3, 3)]) hvp (fs := fsR) (bs := bsE) (E := fun j => j = lf.block)
    (aside_of (x := 30006) r_ (by kernel_rfl : _ = some kd50) rfl mf (by decide)) (by kernel_rfl) (by kernel_rfl) hx f r_ (fun _ => glNone rfl rfl)
  exact ⟨_, q1, q2, q3⟩
noncomputable abbrev rl_unS : List (Nat × Nat) := [(30000, 30000), (30001, 30001), (30002, 30002), (30003, 30003), (30004, 30004), (30005, 30005), (30020, 30020), (30021, 30021), (30022, 30022), (30023, 30023), (30040, 30040)]
noncomputable abbrev ip_unS : IP := [(.oi 0, 6), (.oi 1, 7), (.oi 2, 8), (.oi 3, 1), (.oi 4, 2), (.oi 5, 0), (.oi 6, 5)]
noncomputable abbrev ip2_unS : IP := [(.oi 2, 3), (.int .i64 0, 4)]
theorem unS {v r1 w1_ b0 : Int} {s d o o1 : Nat} {rv rv' : Nat → Value} {E : Nat → Prop} (hM : ∃ l, μ0 16430 = some l) (hb : Base B μ0 30000) (hd : Hid_hideS v s d o rv B w0 μ0 w rv' E)
    (s_ : SR (r1) (w1_) (b0) (0 + 1) (0 + 1) (o1) rv' (B.also E) w μ0 a w1) : SD (v) (r1) (w1_) (b0) (0) (0) (o1) rv B w0 μ0 a w1 := by
  letI : Tab := (PR (r1) (w1_) (b0) (0 + 1) (0 + 1) (o1) rv')
  obtain ⟨μ, lf, LL, hx, r_, mf, hE, hrv, m0, m1, m2, m3⟩ := hd
  obtain ⟨μ1, hx1, f1, r1_⟩ := s_
  have g := fun x b h => @HR.blk (PE2s v s d o rv) B w0 μ (hOf 30040 bsE2s) w r_ x b h
  obtain ⟨l0, k0, _, _, b0_⟩ := g 30001 (.vec 0) (by kernel_rfl)
  obtain ⟨l1, k1, _, _, b1_⟩ := g 30002 (.vec 1) (by kernel_rfl)
  obtain ⟨l2, k2, _, _, b2_⟩ := g 30003 (.vec 2) (by kernel_rfl)
  obtain ⟨l3, k3, _, _, b3_⟩ := g 30004 (.vec 3) (by kernel_rfl)
  obtain ⟨lf2, kf, nf, _, bf⟩ := g 30006 kd50 (by kernel_rfl)
  rw [m0] at k0; cases k0
  rw [m1] at k1; cases k1
  rw [m2] at k2; cases k2
  rw [m3] at k3; cases k3
  rw [mf] at kf; cases kf
  have q0 := vec_was (b := 0) (c := 0) (L := [(oN 2), (iN 9), (oN 2)]) (LL := LL) (by decide) rfl rfl b0_
  have q1 := vec_was (b := 0) (c := 1) (L := [bF, bT, bF]) (LL := LL) (by decide) rfl rfl b1_
  have q2 := vec_was (b := 0) (c := 2) (L := [z0, z0, (iN 14), z0, z1, (iN 3), z0, z1, z1, z0, z1, z1, z2, z1]) (LL := LL) (by decide) rfl rfl b2_
  have q3 := vec_was (b := 0) (c := 3) (L := [(pN 30006), (pN 30005)]) (LL := LL) (by decide) rfl rfl b3_
  have hEl : E lf.block := by rw [hE]
  have hext : Ext μ1 (upm μ1 30040 lf) := Ext.upm _ (@HR.fresh (PR (r1) (w1_) (b0) (0 + 1) (0 + 1) (o1) rv') _ _ _ _ _ r1_ 30040 (by rw [hOf_next]; exact Nat.le_refl _)).2
  have hbf : @brel (PR (r1) (w1_) (b0) (0 + 1) (0 + 1) (o1) rv') (upm μ1 30040 lf) kd50 lf w1 := brel_cells bf ((@HR.below (PR (r1) (w1_) (b0) (0 + 1) (0 + 1) (o1) rv') _ _ _ _ _ r1_).block _ (.inr hEl)) (fun i x hi hx_ y hy => by
    have h1 := cellOf_mem (L := [z0, z2, (pN 16430), z0, (iN 14), .nilp]) (by decide) hx_
    simp only [List.mem_cons, List.not_mem_nil, or_false] at h1
    obtain ⟨lm, hlm⟩ := hM
    rcases h1 with rfl | rfl | rfl | rfl | rfl | rfl <;> simp only [vrel] at hy ⊢ <;> first | exact hy | (obtain ⟨l5, h6, h7⟩ := hy; rw [hx _ _ hlm] at h6; cases h6; exact ⟨lm, hext _ _ (hx1 _ _ hlm), h7⟩))
  have r2 := HR.addBack (T1 := (PR (r1) (w1_) (b0) (0 + 1) (0 + 1) (o1) rv')) r_ (nf rfl) rfl hEl r1_ (by rw [hOf_next]; decide) (by rw [hOf_next]; exact hbf) (glNone rfl rfl)
  rw [hOf_next] at r2
  have hip : IpOk (PR (r1) (w1_) (b0) (0 + 1) (0 + 1) (o1) rv') (PD (v) (r1) (w1_) (b0) (0) (0) (o1) rv) ip_unS := (ipCons (ipN (.i64, ((o1 : Nat) : Int)) rfl rfl) (ipCons (ipN (.i64, (((0 + 1) + 2 : Nat) : Int)) rfl (show (IntKind.i64, ((0 + 3 : Nat) : Int)) = (IntKind.i64, (((0 + 1) + 2 : Nat) : Int)) from Prod.ext rfl (show (((0 + 3 : Nat) : Int) : Int) = (((0 + 1) + 2 : Nat) : Int) by omega))) (ipCons (ipN (.i64, (((0 + 1) + 1 : Nat) : Int)) rfl (show (IntKind.i64, ((0 + 2 : Nat) : Int)) = (IntKind.i64, (((0 + 1) + 1 : Nat) : Int)) from Prod.ext rfl (show (((0 + 2 : Nat) : Int) : Int) = (((0 + 1) + 1 : Nat) : Int) by omega))) (ipCons (ipN (.i64, w1_) rfl rfl) (ipCons (ipN (.i64, b0) rfl rfl) (ipCons (ipN (.i64, r1) rfl rfl) (ipCons (ipN (.i64, (((0 + 1) : Nat) : Int)) rfl (show (IntKind.i64, ((0 + 1 : Nat) : Int)) = (IntKind.i64, (((0 + 1) : Nat) : Int)) from Prod.ext rfl (show (((0 + 1 : Nat) : Int) : Int) = (((0 + 1) : Nat) : Int) by omega))) ipNil)))))))
  have hip2 : IpOk (PE2s v s d o rv) (PD (v) (r1) (w1_) (b0) (0) (0) (o1) rv) ip2_unS := (ipCons (ipN (.i64, v) rfl rfl) (ipCons (ipK (show (IntKind.i64, ((0 : Nat) : Int)) = (IntKind.i64, 0) from Prod.ext rfl (show (((0 : Nat) : Int) : Int) = 0 by omega))) ipNil))
  have hvp : ∀ p ∈ ([(30001, .vec 0, 1), (30002, .vec 1, 2), (30003, .vec 2, 3), (30004, .vec 3, 4), (30020, .vec 4, 0)] : VP), own p.2.1 = true ∧ ∀ l, (upm μ1 30040 lf) p.1 = some l → @brel (PR (r1) (w1_) (b0) (0 + 1) (0 + 1) (o1) rv') (upm μ1 30040 lf) p.2.1 l w1 → @brel (PD (v) (r1) (w1_) (b0) (0) (0) (o1) rv) (ren 30000 (ofPairs rl_unS) (upm μ1 30040 lf)) (.vec p.2.2) l w1 :=
    (allCons ⟨rfl, fun l hl hb_ => vec_unhide (T1 := (PR (r1) (w1_) (b0) (0 + 1) (0 + 1) (o1) rv')) (T2 := (PD (v) (r1) (w1_) (b0) (0) (0) (o1) rv)) (C := ⟨30000, 30041, ofPairs rl_unS, ip_unS⟩) (i1 := 0) (i2 := 1) hip (b := 0) (c := 0) (n := 1) (L2 := [(iN 9), (iN 11)]) (L1' := [(oN 3)]) (L2' := [(iN 9), (iN 11)]) rfl rfl rfl (fun m hm => (by show rv' _ = rv _; rw [hrv]; exact q0.1 m hm)) (by rw [show ((PR (r1) (w1_) (b0) (0 + 1) (0 + 1) (o1) rv')).rv = snap w LL from hrv]; exact fun m x hx => (by
      obtain ⟨x0, k1, k2⟩ := cvL_get (C := ⟨30000, 30041, ofPairs [], ip2_unS⟩) (l := [(oN 2), (iN 9), (oN 2)]) (by kernel_rfl) m x hx
      exact @vrel.plain (PD (v) (r1) (w1_) (b0) (0) (0) (o1) rv) _ _ x _ (List.all_eq_true.1 (by rfl : ([(oN 3)] : List AV).all plain = true) x (List.mem_of_getElem? hx)) (cvV_sound (T := (PE2s v s d o rv)) (T' := (PD (v) (r1) (w1_) (b0) (0) (0) (o1) rv)) hip2 k2 (q0.2 m x0 k1)))) (Nat.le_refl _) (by kernel_rfl) hb_⟩
    (allCons ⟨rfl, fun l hl hb_ => vec_unhide (T1 := (PR (r1) (w1_) (b0) (0 + 1) (0 + 1) (o1) rv')) (T2 := (PD (v) (r1) (w1_) (b0) (0) (0) (o1) rv)) (C := ⟨30000, 30041, ofPairs rl_unS, ip_unS⟩) (i1 := 1) (i2 := 2) hip (b := 0) (c := 1) (n := 1) (L2 := [bT, bT]) (L1' := [bF]) (L2' := [bT, bT]) rfl rfl rfl (fun m hm => (by show rv' _ = rv _; rw [hrv]; exact q1.1 m hm)) (by rw [show ((PR (r1) (w1_) (b0) (0 + 1) (0 + 1) (o1) rv')).rv = snap w LL from hrv]; exact fun m x hx => (by
      obtain ⟨x0, k1, k2⟩ := cvL_get (C := ⟨30000, 30041, ofPairs [], ip2_unS⟩) (l := [bF, bT, bF]) (by kernel_rfl) m x hx
      exact @vrel.plain (PD (v) (r1) (w1_) (b0) (0) (0) (o1) rv) _ _ x _ (List.all_eq_true.1 (by rfl : ([bF] : List AV).all plain = true) x (List.mem_of_getElem? hx)) (cvV_sound (T := (PE2s v s d o rv)) (T' := (PD (v) (r1) (w1_) (b0) (0) (0) (o1) rv)) hip2 k2 (q1.2 m x0 k1)))) (Nat.le_refl _) (by kernel_rfl) hb_⟩
    (allCons ⟨rfl, fun l hl hb_ => vec_unhide (T1 := (PR (r1) (w1_) (b0) (0 + 1) (0 + 1) (o1) rv')) (T2 := (PD (v) (r1) (w1_) (b0) (0) (0) (o1) rv)) (C := ⟨30000, 30041, ofPairs rl_unS, ip_unS⟩) (i1 := 2) (i2 := 3) hip (b := 0) (c := 2) (n := 7) (L2 := [z1, z1, (iN 21), (oN 6), z1, z2, z1]) (L1' := [z0, z0, (iN 14), (oN 4), z1, (iN 3), z0]) (L2' := [z1, z1, (iN 21), (oN 5), z1, z2, z1]) rfl rfl rfl (fun m hm => (by show rv' _ = rv _; rw [hrv]; exact q2.1 m hm)) (by rw [show ((PR (r1) (w1_) (b0) (0 + 1) (0 + 1) (o1) rv')).rv = snap w LL from hrv]; exact fun m x hx => (by
      obtain ⟨x0, k1, k2⟩ := cvL_get (C := ⟨30000, 30041, ofPairs [], ip2_unS⟩) (l := [z0, z0, (iN 14), z0, z1, (iN 3), z0, z1, z1, z0, z1, z1, z2, z1]) (by kernel_rfl) m x hx
      exact @vrel.plain (PD (v) (r1) (w1_) (b0) (0) (0) (o1) rv) _ _ x _ (List.all_eq_true.1 (by rfl : ([z0, z0, (iN 14), (oN 4), z1, (iN 3), z0] : List AV).all plain = true) x (List.mem_of_getElem? hx)) (cvV_sound (T := (PE2s v s d o rv)) (T' := (PD (v) (r1) (w1_) (b0) (0) (0) (o1) rv)) hip2 k2 (q2.2 m x0 k1)))) (Nat.le_refl _) (by kernel_rfl) hb_⟩
    (allCons ⟨rfl, fun l hl hb_ => vec_unhide (T1 := (PR (r1) (w1_) (b0) (0 + 1) (0 + 1) (o1) rv')) (T2 := (PD (v) (r1) (w1_) (b0) (0) (0) (o1) rv)) (C := ⟨30000, 30041, ofPairs rl_unS, ip_unS⟩) (i1 := 3) (i2 := 4) hip (b := 0) (c := 3) (n := 1) (L2 := [(pN 30005)]) (L1' := [(pN 30040)]) (L2' := [(pN 30005)]) rfl rfl rfl (fun m hm => (by show rv' _ = rv _; rw [hrv]; exact q3.1 m hm)) (by rw [show ((PR (r1) (w1_) (b0) (0 + 1) (0 + 1) (o1) rv')).rv = snap w LL from hrv]; exact fun m x hx => (by
      cases m with
      | succ m => simp at hx
      | zero =>
        cases hx
        have h5 := q3.2 0 (pN 30006) rfl
        simp only [vrel] at h5 ⊢
        obtain ⟨l5, h6, h7⟩ := h5
        rw [mf] at h6; cases h6
        exact ⟨lf, (by show (ofPairs rl_unS).get 30040 >>= upm μ1 30040 lf = some lf; rfl), h7⟩)) (Nat.le_refl _) (by kernel_rfl) hb_⟩
    (allCons ⟨rfl, fun l hl hb_ => (vpG (T := (PR (r1) (w1_) (b0) (0 + 1) (0 + 1) (o1) rv')) (T' := (PD (v) (r1) (w1_) (b0) (0) (0) (o1) rv)) (C := ⟨30000, 30041, ofPairs rl_unS, ip_unS⟩) (i := 4) (i' := 0) hip 0 (g := bs.outG) (L := []) (L' := []) rfl rfl bs.outG_int (Nat.le_refl _) bs.noZero (by kernel_rfl)).2 _ l w1 hb_⟩
    allNil)))))
  obtain ⟨p1, p2, p3⟩ := HR.weakIn (T := (PR (r1) (w1_) (b0) (0 + 1) (0 + 1) (o1) rv')) (T' := (PD (v) (r1) (w1_) (b0) (0) (0) (o1) rv)) (C := ⟨30000, 30041, ofPairs rl_unS, ip_unS⟩) (rl := rl_unS) hb (by decide) rfl (by kernel_rfl) hip (vp := [(30001, .vec 0, 1), (30002, .vec 1, 2), (30003, .vec 2, 3), (30004, .vec 3, 4), (30020, .vec 4, 0)]) hvp (fs := fsR) (bs := bsD) (by kernel_rfl) (by kernel_rfl) (hx1.trans hext) (f1.ext hext) r2 (glNone rfl rfl)
  exact ⟨_, p1, p2, p3⟩
noncomputable abbrev bsDr : BS := [(7716, 7716, kb0), (7717, 7717, kb1), (7718, 7718, kb2), (7914, 7914, kb3), (10463, 10463, kb7), (10971, 10971, kb43), (11691, 11691, kb14), (13691, 13691, (.cells 1 false [] (T.ofList 0 .leaf [bT]))), (13693, 13693, kb15), (14317, 14317, (.cells 4 false [] (T.ofList 0 .leaf [(.ov 30001 7 1), (.ov 30002 7 1), (.ov 30003 8 7), (oN 1)]))), (14318, 14318, kb17), (14320, 14320, kb45), (14321, 14321, (.cells 32 false [] (T.ofList 0 .leaf [(pN 7718), (pN 10976), (pN 10971), (pN 10973), (pN 10977), (pN 14317), (.ov 30004 8 1), (.map 14318), (.map 14319), .nils, z1, (iN 3), (iN 6), z0, .nilp, bT, (iN 2000), (oN 0), z0, z1, z0, z0, (uN 0), z0, tx4, tx4, bF, z0, .nils, z0, z0, (.map 14320)]))), (14616, 14616, kb21), (15877, 15877, kb24), (16327, 16327, kb25), (16333, 16333, kb26), (16430, 16430, kb27), (16432, 16432, kb28), (17419, 17419, kb29), (17785, 17785, kb30), (18694, 18694, kb32), (18699, 18699, kb33), (18799, 18799, kb34), (20208, 20208, kb33), (30000, 30000, kb31), (30001, 30001, (.vec 1)), (30002, 30002, (.vec 2)), (30003, 30003, (.vec 3)), (30004, 30004, (.vec 4)), (30005, 30005, kb46), (30021, 30021, kb47), (30022, 30022, kb48), (30023, 30023, kb49), (30040, 30040, kd50)]
noncomputable abbrev wbk (k : Nat) : Blk := .cells 7 false [] (T.ofList 0 .leaf ([(pN 10971), (pN 10973), (pN 7718), (.so 11691 0 39 3)] ++ (.so 30020 0 k 1) :: [bF, bF]))
noncomputable abbrev bsDc (n k : Nat) : BS := (30020, 30020, .cells k true [] (T.ofList 0 .leaf (bs.ot n))) :: (10977, 10977, wbk k) :: bsDr
def SDc (x : Int) (r : Int) (wd : Int) (c0 : Int) (s : Nat) (d : Nat) (o : Nat) (n k : Nat) (rv : Nat → Value) (B : Kp) (w0 : World) (μ : M) (a : Act) (w : World) : Prop := St (PD x r wd c0 s d o rv) B w0 μ Tryz.f51.ntmps (frOf fsR) (hOf 30041 (bsDc n k)) a w
theorem bsDr_has : hasAll (hOf 30041 bsD) (bsOf bsDr) = true := by kernel_rfl
theorem toDc {x r wd c0 : Int} {k : Nat} (n : Nat) (hk : k = 3 * n) (hn : n ≤ 1000) {rv : Nat → Value} (s_ : SD x r wd c0 0 0 k rv B w0 μ0 a w) : SDc x r wd c0 0 0 k n k rv B w0 μ0 a w := by
  refine bs.swap (T := PD x r wd c0 0 0 k rv) (bs := bsD) ?_ s_
  intro y b' hy
  rw [bs.hOf_get] at hy
  letI : Tab := Tab.empty
  have hlim : ∀ q ∈ bsOf bsDr, q.1 < limit := okLim_mem (bs := bsOf bsDr) (by kernel_rfl)
  have hm : (y, b') ∈ ((30020, Blk.cells k true [] (T.ofList 0 .leaf (bs.ot n))) :: (10977, wbk k) :: bsOf bsDr : List (Nat × Blk)) := ofPairs_get (l := bsOf (bsDc n k)) (by
    intro p hp
    rcases List.mem_cons.1 hp with rfl | hp
    · show 30020 < limit; decide
    · rcases List.mem_cons.1 hp with rfl | hp
      · show 10977 < limit; decide
      · exact hlim p hp) hy
  rcases List.mem_cons.1 hm with e | hm
  · cases e
    refine ⟨.vec 0, by kernel_rfl, rfl, fun μ l w h => bs.vec_cells (i := 0) ?_ (by omega) ?_ ?_ μ l w h⟩
    · rw [bs.ot_len]; exact hk
    · show k ≤ k + 0; omega
    · intro m x hx
      have h1 := bs.ot_get n m x hx
      have h2 : m < (bs.ot n).length := (List.getElem?_eq_some_iff.1 hx).1
      rw [bs.ot_len] at h2
      show pvg bs.outG k [] m = some x
      rw [pvg_lo (by omega), h1]; rfl
  · rcases List.mem_cons.1 hm with e | hm
    · cases e
      exact ⟨(.cells 7 false [] (T.ofList 0 .leaf [(pN 10971), (pN 10973), (pN 7718), (.so 11691 0 39 3), (.ov 30020 6 1), bF, bF])), by kernel_rfl, rfl, fun μ l w h => bs.cells_set (L1 := [(pN 10971), (pN 10973), (pN 7718), (.so 11691 0 39 3)]) (L2 := [bF, bF]) (by decide) (fun μ v hv => bs.ov_so (n := k) rfl μ v hv) rfl μ l w h⟩
    · exact ⟨b', hasAll_mem bsDr_has _ hm, rfl, fun μ l w h => h⟩
end
end Go.Proofs.YtbgkinjicnnkiaaGreatDoor.sp
