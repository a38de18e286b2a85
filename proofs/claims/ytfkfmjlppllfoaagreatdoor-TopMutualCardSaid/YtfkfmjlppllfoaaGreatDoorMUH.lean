/-
  Frames that are set aside while a call runs, and come back.
-/
import Derived.Test.YtfkfmjlppllfoaaGreatDoorMNN
import Derived.Test.YtfkfmjlppllfoaaGreatDoorMUS
import Derived.Test.YtfkfmjlppllfoaaGreatDoorXN3
import Derived.Test.YtfkfmjlppllfoaaGreatDoorProg
import Derived.KernelRfl
set_option linter.unusedSectionVars false
set_option linter.unusedVariables false
set_option maxRecDepth 1000000
set_option maxHeartbeats 0
namespace Go.Proofs.YtfkfmjlppllfoaaGreatDoor.mu
open Go.X Go.RowKit
theorem hOf_next {N : Nat} {bs : BS} : (hOf N bs).next = N := by unfold hOf; rw [fT_eq]
section
variable {B : Kp} {w0 w w1 : World} {μ0 : M} {a : Act}
def Hid0 (v r wd c0 c1 : Int) (s d : Nat) (rv : Nat → Value) (B : Kp) (w0 : World) (μ0 : M) (w : World) (rv' : Nat → Value) (E : Nat → Prop) : Prop :=
  ∃ (μ : M) (lf : X.Loc) (LL : Nat → X.Loc), Ext μ0 μ ∧ @HR (PE20 v r wd c0 c1 s d rv) B w0 μ (hOf 20010 bsE20) w ∧ μ 20006 = some lf ∧ E = (fun j => j = lf.block) ∧ rv' = snap w LL ∧ μ 20001 = some (LL 0) ∧ μ 20002 = some (LL 1) ∧ μ 20003 = some (LL 2) ∧ μ 20004 = some (LL 3)
noncomputable abbrev rl_h0 : List (Nat × Nat) := [(20000, 20000), (20001, 20001), (20002, 20002), (20003, 20003), (20004, 20004), (20005, 20005)]
noncomputable abbrev ip_h0 : IP := [(.oi 0, 7), (.oi 1, 8), (.oi 2, 2), (.oi 3, 3), (.oi 4, 4), (.oi 5, 1), (.oi 7, 0), (.oi 9, 5)]
theorem hide0 {v r wd c0 c1 : Int} {s d : Nat} {rv : Nat → Value} (hb : Base B μ0 20000) (s_ : SE20 v r wd c0 c1 s d rv B w0 μ0 a w) : ∃ rv' E, Hid0 v r wd c0 c1 s d rv B w0 μ0 w rv' E ∧ SE1 (v - 1) (r + 6) (wd + 7) (c0 + 6) (c1) (s + 1) (d + 1) rv' (B.also E) w μ0 a w := by
  obtain ⟨μ, hx, f, r_⟩ := s_
  have g := fun x b h => @HR.blk (PE20 v r wd c0 c1 s d rv) B w0 μ (hOf 20010 bsE20) w r_ x b h
  obtain ⟨l0, m0, _⟩ := g 20001 (.vec 0) (by kernel_rfl)
  obtain ⟨l1, m1, _⟩ := g 20002 (.vec 1) (by kernel_rfl)
  obtain ⟨l2, m2, _⟩ := g 20003 (.vec 2) (by kernel_rfl)
  obtain ⟨l3, m3, _⟩ := g 20004 (.vec 3) (by kernel_rfl)
  obtain ⟨lf, mf, _⟩ := g 20006 kb23 (by kernel_rfl)
  let LL : Nat → X.Loc := fun c => match c with | 0 => l0 | 1 => l1 | 2 => l2 | _ => l3
  refine ⟨snap w LL, fun j => j = lf.block, ⟨μ, lf, LL, hx, r_, mf, rfl, rfl, m0, m1, m2, m3⟩, ?_⟩
  have hip : IpOk (PE20 v r wd c0 c1 s d rv) (PE1 (v - 1) (r + 6) (wd + 7) (c0 + 6) (c1) (s + 1) (d + 1) (snap w LL)) ip_h0 := (ipCons (ipN (.i64, ((s + 2 : Nat) : Int)) rfl rfl) (ipCons (ipN (.i64, ((d + 2 : Nat) : Int)) rfl rfl) (ipCons (ipN (.i64, wd + 7) rfl rfl) (ipCons (ipN (.i64, c0 + 6) rfl rfl) (ipCons (ipN (.i64, c1) rfl rfl) (ipCons (ipN (.i64, r + 6) rfl rfl) (ipCons (ipN (.i64, v - 1) rfl rfl) (ipCons (ipN (.i64, ((s + 1 : Nat) : Int)) rfl rfl) ipNil))))))))
  have hvp : ∀ p ∈ ([(20001, .vec 0, 0), (20002, .vec 1, 1), (20003, .vec 2, 2), (20004, .vec 3, 3)] : VP), own p.2.1 = true ∧ ∀ l, μ p.1 = some l → @brel (PE20 v r wd c0 c1 s d rv) μ p.2.1 l w → @brel (PE1 (v - 1) (r + 6) (wd + 7) (c0 + 6) (c1) (s + 1) (d + 1) (snap w LL)) (ren 20000 (ofPairs rl_h0) μ) (.vec p.2.2) l w :=
    (allCons ⟨rfl, fun l hl hb_ => (by
    rw [m0] at hl; cases hl
    exact vec_hide (T := (PE20 v r wd c0 c1 s d rv)) (T' := (PE1 (v - 1) (r + 6) (wd + 7) (c0 + 6) (c1) (s + 1) (d + 1) (snap w LL))) (C := ⟨20000, 20010, ofPairs rl_h0, ip_h0⟩) (i := 0) (i' := 0) hip (c := 0) (L1 := [(oN 6)]) (L2 := [(oN 7)]) (LL := LL) (by decide) rfl rfl (by decide) rfl rfl (Nat.le_refl _) (by kernel_rfl) hb_)⟩
    (allCons ⟨rfl, fun l hl hb_ => (by
    rw [m1] at hl; cases hl
    exact vec_hide (T := (PE20 v r wd c0 c1 s d rv)) (T' := (PE1 (v - 1) (r + 6) (wd + 7) (c0 + 6) (c1) (s + 1) (d + 1) (snap w LL))) (C := ⟨20000, 20010, ofPairs rl_h0, ip_h0⟩) (i := 1) (i' := 1) hip (c := 1) (L1 := [bF]) (L2 := [bF]) (LL := LL) (by decide) rfl rfl (by decide) rfl rfl (Nat.le_refl _) (by kernel_rfl) hb_)⟩
    (allCons ⟨rfl, fun l hl hb_ => (by
    rw [m2] at hl; cases hl
    exact vec_hide (T := (PE20 v r wd c0 c1 s d rv)) (T' := (PE1 (v - 1) (r + 6) (wd + 7) (c0 + 6) (c1) (s + 1) (d + 1) (snap w LL))) (C := ⟨20000, 20010, ofPairs rl_h0, ip_h0⟩) (i := 2) (i' := 2) hip (c := 2) (L1 := [z0, z0, (iN 9), (oN 8), z1, z2, z0]) (L2 := [z0, z1, z0, (oN 9), z1, z2, z0]) (LL := LL) (by decide) rfl rfl (by decide) rfl rfl (Nat.le_refl _) (by kernel_rfl) hb_)⟩
    (allCons ⟨rfl, fun l hl hb_ => (by
    rw [m3] at hl; cases hl
    exact vec_hide (T := (PE20 v r wd c0 c1 s d rv)) (T' := (PE1 (v - 1) (r + 6) (wd + 7) (c0 + 6) (c1) (s + 1) (d + 1) (snap w LL))) (C := ⟨20000, 20010, ofPairs rl_h0, ip_h0⟩) (i := 3) (i' := 3) hip (c := 3) (L1 := [(pN 20006)]) (L2 := [(pN 20005)]) (LL := LL) (by decide) rfl rfl (by decide) rfl rfl (Nat.le_refl _) (by kernel_rfl) hb_)⟩
    allNil))))
  obtain ⟨q1, q2, q3⟩ := HR.weakAt (T := (PE20 v r wd c0 c1 s d rv)) (T' := (PE1 (v - 1) (r + 6) (wd + 7) (c0 + 6) (c1) (s + 1) (d + 1) (snap w LL))) (C := ⟨20000, 20010, ofPairs rl_h0, ip_h0⟩) (rl := rl_h0) hb (by decide) rfl (by kernel_rfl) hip (vp := [(20001, .vec 0, 0), (20002, .vec 1, 1), (20003, .vec 2, 2), (20004, .vec 3, 3)]) hvp (fs := fsR) (bs := bsE1) (E := fun j => j = lf.block)
    (aside_of (x := 20006) r_ (by kernel_rfl : _ = some kb23) rfl mf (by decide)) (by kernel_rfl) (by kernel_rfl) hx f r_ (fun _ => glNone rfl rfl)
  exact ⟨_, q1, q2, q3⟩
noncomputable abbrev rl_u05 : List (Nat × Nat) := [(20000, 20000), (20001, 20001), (20002, 20002), (20003, 20003), (20004, 20004), (20005, 20005), (20010, 20010)]
noncomputable abbrev ip_u05 : IP := [(.oi 0, 10), (.oi 1, 11), (.oi 2, 4), (.oi 3, 5), (.oi 4, 6), (.oi 5, 3), (.oi 6, 1), (.oi 7, 2), (.oi 8, 8)]
noncomputable abbrev ip2_05 : IP := [(.oi 6, 0), (.oi 8, 7)]
theorem unhide05 {v r wd c0 c1 u res r1 w1_ b0 b1 : Int} {s d : Nat} {rv rv' : Nat → Value} {E : Nat → Prop} (hM : ∃ l, μ0 14062 = some l) (hb : Base B μ0 20000) (hd : Hid0 v r wd c0 c1 s d rv B w0 μ0 w rv' E)
    (s_ : SR15 u res r1 w1_ b0 b1 (s + 1) (d + 1) rv' (B.also E) w μ0 a w1) : SC05 v u res r1 w1_ b0 b1 s d rv B w0 μ0 a w1 := by
  letI : Tab := (PR15 u res r1 w1_ b0 b1 (s + 1) (d + 1) rv')
  obtain ⟨μ, lf, LL, hx, r_, mf, hE, hrv, m0, m1, m2, m3⟩ := hd
  obtain ⟨μ1, hx1, f1, r1_⟩ := s_
  have g := fun x b h => @HR.blk (PE20 v r wd c0 c1 s d rv) B w0 μ (hOf 20010 bsE20) w r_ x b h
  obtain ⟨l0, k0, _, _, b0_⟩ := g 20001 (.vec 0) (by kernel_rfl)
  obtain ⟨l1, k1, _, _, b1_⟩ := g 20002 (.vec 1) (by kernel_rfl)
  obtain ⟨l2, k2, _, _, b2_⟩ := g 20003 (.vec 2) (by kernel_rfl)
  obtain ⟨l3, k3, _, _, b3_⟩ := g 20004 (.vec 3) (by kernel_rfl)
  obtain ⟨lf2, kf, nf, _, bf⟩ := g 20006 kb23 (by kernel_rfl)
  rw [m0] at k0; cases k0
  rw [m1] at k1; cases k1
  rw [m2] at k2; cases k2
  rw [m3] at k3; cases k3
  rw [mf] at kf; cases kf
  have q0 := vec_was (c := 0) (L := [(oN 6), (oN 7)]) (LL := LL) (by decide) rfl rfl b0_
  have q1 := vec_was (c := 1) (L := [bF, bF]) (LL := LL) (by decide) rfl rfl b1_
  have q2 := vec_was (c := 2) (L := [z0, z0, (iN 9), (oN 8), z1, z2, z0, z0, z1, z0, (oN 9), z1, z2, z0]) (LL := LL) (by decide) rfl rfl b2_
  have q3 := vec_was (c := 3) (L := [(pN 20006), (pN 20005)]) (LL := LL) (by decide) rfl rfl b3_
  have hEl : E lf.block := by rw [hE]
  have hext : Ext μ1 (upm μ1 20010 lf) := Ext.upm _ (@HR.fresh (PR15 u res r1 w1_ b0 b1 (s + 1) (d + 1) rv') _ _ _ _ _ r1_ 20010 (by rw [hOf_next]; exact Nat.le_refl _)).2
  have hbf : @brel (PR15 u res r1 w1_ b0 b1 (s + 1) (d + 1) rv') (upm μ1 20010 lf) kb23 lf w1 := brel_cells bf ((@HR.below (PR15 u res r1 w1_ b0 b1 (s + 1) (d + 1) rv') _ _ _ _ _ r1_).block _ (.inr hEl)) (fun i x hi hx_ y hy => by
    have h1 := cellOf_mem (L := [z0, z2, (pN 14062), z0, (iN 9), .nilp]) (by decide) hx_
    simp only [List.mem_cons, List.not_mem_nil, or_false] at h1
    obtain ⟨lm, hlm⟩ := hM
    rcases h1 with rfl | rfl | rfl | rfl | rfl | rfl <;> simp only [vrel] at hy ⊢ <;> first | exact hy | (obtain ⟨l5, h6, h7⟩ := hy; rw [hx _ _ hlm] at h6; cases h6; exact ⟨lm, hext _ _ (hx1 _ _ hlm), h7⟩))
  have r2 := HR.addBack (T1 := (PR15 u res r1 w1_ b0 b1 (s + 1) (d + 1) rv')) r_ (nf rfl) rfl hEl r1_ (by rw [hOf_next]; decide) (by rw [hOf_next]; exact hbf) (glNone rfl rfl)
  rw [hOf_next] at r2
  have hip : IpOk (PR15 u res r1 w1_ b0 b1 (s + 1) (d + 1) rv') (PC05 v u res r1 w1_ b0 b1 s d rv) ip_u05 := (ipCons (ipN (.i64, ((s + 3 : Nat) : Int)) rfl rfl) (ipCons (ipN (.i64, ((d + 2 : Nat) : Int)) rfl rfl) (ipCons (ipN (.i64, w1_) rfl rfl) (ipCons (ipN (.i64, b0) rfl rfl) (ipCons (ipN (.i64, b1) rfl rfl) (ipCons (ipN (.i64, r1) rfl rfl) (ipCons (ipN (.i64, u) rfl rfl) (ipCons (ipN (.i64, res) rfl rfl) (ipCons (ipN (.i64, ((s + 1 : Nat) : Int)) rfl rfl) ipNil)))))))))
  have hip2 : IpOk (PE20 v r wd c0 c1 s d rv) (PC05 v u res r1 w1_ b0 b1 s d rv) ip2_05 := (ipCons (ipN (.i64, v) rfl rfl) (ipCons (ipN (.i64, ((s : Nat) : Int)) rfl rfl) ipNil))
  have hvp : ∀ p ∈ ([(20001, .vec 0, 0), (20002, .vec 1, 1), (20003, .vec 2, 2), (20004, .vec 3, 3)] : VP), own p.2.1 = true ∧ ∀ l, (upm μ1 20010 lf) p.1 = some l → @brel (PR15 u res r1 w1_ b0 b1 (s + 1) (d + 1) rv') (upm μ1 20010 lf) p.2.1 l w1 → @brel (PC05 v u res r1 w1_ b0 b1 s d rv) (ren 20000 (ofPairs rl_u05) (upm μ1 20010 lf)) (.vec p.2.2) l w1 :=
    (allCons ⟨rfl, fun l hl hb_ => vec_unhide (T1 := (PR15 u res r1 w1_ b0 b1 (s + 1) (d + 1) rv')) (T2 := (PC05 v u res r1 w1_ b0 b1 s d rv)) (C := ⟨20000, 20011, ofPairs rl_u05, ip_u05⟩) (i1 := 0) (i2 := 0) hip (c := 0) (n := 1) (L2 := [(oN 6), (oN 7)]) (L1' := [(oN 0)]) (L2' := [(oN 1), (oN 2)]) rfl rfl rfl (fun m hm => (by show rv' _ = rv _; rw [hrv]; exact q0.1 m hm)) (by rw [show ((PR15 u res r1 w1_ b0 b1 (s + 1) (d + 1) rv')).rv = snap w LL from hrv]; exact fun m x hx => (by
      obtain ⟨x0, k1, k2⟩ := cvL_get (C := ⟨20000, 20011, ofPairs [], ip2_05⟩) (l := [(oN 6), (oN 7)]) (by kernel_rfl) m x hx
      exact @vrel.plain (PC05 v u res r1 w1_ b0 b1 s d rv) _ _ x _ (List.all_eq_true.1 (by rfl : ([(oN 0)] : List AV).all plain = true) x (List.mem_of_getElem? hx)) (cvV_sound (T := (PE20 v r wd c0 c1 s d rv)) (T' := (PC05 v u res r1 w1_ b0 b1 s d rv)) hip2 k2 (q0.2 m x0 k1)))) (Nat.le_refl _) (by kernel_rfl) hb_⟩
    (allCons ⟨rfl, fun l hl hb_ => vec_unhide (T1 := (PR15 u res r1 w1_ b0 b1 (s + 1) (d + 1) rv')) (T2 := (PC05 v u res r1 w1_ b0 b1 s d rv)) (C := ⟨20000, 20011, ofPairs rl_u05, ip_u05⟩) (i1 := 1) (i2 := 1) hip (c := 1) (n := 1) (L2 := [bF, bF]) (L1' := [bF]) (L2' := [bF, bF]) rfl rfl rfl (fun m hm => (by show rv' _ = rv _; rw [hrv]; exact q1.1 m hm)) (by rw [show ((PR15 u res r1 w1_ b0 b1 (s + 1) (d + 1) rv')).rv = snap w LL from hrv]; exact fun m x hx => (by
      obtain ⟨x0, k1, k2⟩ := cvL_get (C := ⟨20000, 20011, ofPairs [], ip2_05⟩) (l := [bF, bF]) (by kernel_rfl) m x hx
      exact @vrel.plain (PC05 v u res r1 w1_ b0 b1 s d rv) _ _ x _ (List.all_eq_true.1 (by rfl : ([bF] : List AV).all plain = true) x (List.mem_of_getElem? hx)) (cvV_sound (T := (PE20 v r wd c0 c1 s d rv)) (T' := (PC05 v u res r1 w1_ b0 b1 s d rv)) hip2 k2 (q1.2 m x0 k1)))) (Nat.le_refl _) (by kernel_rfl) hb_⟩
    (allCons ⟨rfl, fun l hl hb_ => vec_unhide (T1 := (PR15 u res r1 w1_ b0 b1 (s + 1) (d + 1) rv')) (T2 := (PC05 v u res r1 w1_ b0 b1 s d rv)) (C := ⟨20000, 20011, ofPairs rl_u05, ip_u05⟩) (i1 := 2) (i2 := 2) hip (c := 2) (n := 7) (L2 := [z0, z1, (iN 4), (oN 8), z1, z2, z1]) (L1' := [z0, z0, (iN 9), (oN 7), z1, z2, z0]) (L2' := [z0, z1, (iN 4), (oN 8), z1, z2, z1]) rfl rfl rfl (fun m hm => (by show rv' _ = rv _; rw [hrv]; exact q2.1 m hm)) (by rw [show ((PR15 u res r1 w1_ b0 b1 (s + 1) (d + 1) rv')).rv = snap w LL from hrv]; exact fun m x hx => (by
      obtain ⟨x0, k1, k2⟩ := cvL_get (C := ⟨20000, 20011, ofPairs [], ip2_05⟩) (l := [z0, z0, (iN 9), (oN 8), z1, z2, z0, z0, z1, z0, (oN 9), z1, z2, z0]) (by kernel_rfl) m x hx
      exact @vrel.plain (PC05 v u res r1 w1_ b0 b1 s d rv) _ _ x _ (List.all_eq_true.1 (by rfl : ([z0, z0, (iN 9), (oN 7), z1, z2, z0] : List AV).all plain = true) x (List.mem_of_getElem? hx)) (cvV_sound (T := (PE20 v r wd c0 c1 s d rv)) (T' := (PC05 v u res r1 w1_ b0 b1 s d rv)) hip2 k2 (q2.2 m x0 k1)))) (Nat.le_refl _) (by kernel_rfl) hb_⟩
    (allCons ⟨rfl, fun l hl hb_ => vec_unhide (T1 := (PR15 u res r1 w1_ b0 b1 (s + 1) (d + 1) rv')) (T2 := (PC05 v u res r1 w1_ b0 b1 s d rv)) (C := ⟨20000, 20011, ofPairs rl_u05, ip_u05⟩) (i1 := 3) (i2 := 3) hip (c := 3) (n := 1) (L2 := [(pN 20005)]) (L1' := [(pN 20010)]) (L2' := [(pN 20005)]) rfl rfl rfl (fun m hm => (by show rv' _ = rv _; rw [hrv]; exact q3.1 m hm)) (by rw [show ((PR15 u res r1 w1_ b0 b1 (s + 1) (d + 1) rv')).rv = snap w LL from hrv]; exact fun m x hx => (by
      cases m with
      | succ m => simp at hx
      | zero =>
        cases hx
        have h5 := q3.2 0 (pN 20006) rfl
        simp only [vrel] at h5 ⊢
        obtain ⟨l5, h6, h7⟩ := h5
        rw [mf] at h6; cases h6
        exact ⟨lf, (by show (ofPairs rl_u05).get 20010 >>= upm μ1 20010 lf = some lf; rfl), h7⟩)) (Nat.le_refl _) (by kernel_rfl) hb_⟩
    allNil))))
  obtain ⟨p1, p2, p3⟩ := HR.weakIn (T := (PR15 u res r1 w1_ b0 b1 (s + 1) (d + 1) rv')) (T' := (PC05 v u res r1 w1_ b0 b1 s d rv)) (C := ⟨20000, 20011, ofPairs rl_u05, ip_u05⟩) (rl := rl_u05) hb (by decide) rfl (by kernel_rfl) hip (vp := [(20001, .vec 0, 0), (20002, .vec 1, 1), (20003, .vec 2, 2), (20004, .vec 3, 3)]) hvp (fs := fsR) (bs := bsC05) (by kernel_rfl) (by kernel_rfl) (hx1.trans hext) (f1.ext hext) r2 (glNone rfl rfl)
  exact ⟨_, p1, p2, p3⟩
noncomputable abbrev rl_u012 : List (Nat × Nat) := [(20000, 20000), (20001, 20001), (20002, 20002), (20003, 20003), (20004, 20004), (20005, 20005), (20010, 20010)]
noncomputable abbrev ip_u012 : IP := [(.oi 0, 10), (.oi 1, 11), (.oi 2, 4), (.oi 3, 5), (.oi 4, 6), (.oi 5, 3), (.oi 6, 1), (.oi 7, 2), (.oi 8, 8)]
noncomputable abbrev ip2_012 : IP := [(.oi 6, 0), (.oi 8, 7)]
theorem unhide012 {v r wd c0 c1 u res r1 w1_ b0 b1 : Int} {s d : Nat} {rv rv' : Nat → Value} {E : Nat → Prop} (hM : ∃ l, μ0 14062 = some l) (hb : Base B μ0 20000) (hd : Hid0 v r wd c0 c1 s d rv B w0 μ0 w rv' E)
    (s_ : SR112 u res r1 w1_ b0 b1 (s + 1) (d + 1) rv' (B.also E) w μ0 a w1) : SC012 v u res r1 w1_ b0 b1 s d rv B w0 μ0 a w1 := by
  letI : Tab := (PR112 u res r1 w1_ b0 b1 (s + 1) (d + 1) rv')
  obtain ⟨μ, lf, LL, hx, r_, mf, hE, hrv, m0, m1, m2, m3⟩ := hd
  obtain ⟨μ1, hx1, f1, r1_⟩ := s_
  have g := fun x b h => @HR.blk (PE20 v r wd c0 c1 s d rv) B w0 μ (hOf 20010 bsE20) w r_ x b h
  obtain ⟨l0, k0, _, _, b0_⟩ := g 20001 (.vec 0) (by kernel_rfl)
  obtain ⟨l1, k1, _, _, b1_⟩ := g 20002 (.vec 1) (by kernel_rfl)
  obtain ⟨l2, k2, _, _, b2_⟩ := g 20003 (.vec 2) (by kernel_rfl)
  obtain ⟨l3, k3, _, _, b3_⟩ := g 20004 (.vec 3) (by kernel_rfl)
  obtain ⟨lf2, kf, nf, _, bf⟩ := g 20006 kb23 (by kernel_rfl)
  rw [m0] at k0; cases k0
  rw [m1] at k1; cases k1
  rw [m2] at k2; cases k2
  rw [m3] at k3; cases k3
  rw [mf] at kf; cases kf
  have q0 := vec_was (c := 0) (L := [(oN 6), (oN 7)]) (LL := LL) (by decide) rfl rfl b0_
  have q1 := vec_was (c := 1) (L := [bF, bF]) (LL := LL) (by decide) rfl rfl b1_
  have q2 := vec_was (c := 2) (L := [z0, z0, (iN 9), (oN 8), z1, z2, z0, z0, z1, z0, (oN 9), z1, z2, z0]) (LL := LL) (by decide) rfl rfl b2_
  have q3 := vec_was (c := 3) (L := [(pN 20006), (pN 20005)]) (LL := LL) (by decide) rfl rfl b3_
  have hEl : E lf.block := by rw [hE]
  have hext : Ext μ1 (upm μ1 20010 lf) := Ext.upm _ (@HR.fresh (PR112 u res r1 w1_ b0 b1 (s + 1) (d + 1) rv') _ _ _ _ _ r1_ 20010 (by rw [hOf_next]; exact Nat.le_refl _)).2
  have hbf : @brel (PR112 u res r1 w1_ b0 b1 (s + 1) (d + 1) rv') (upm μ1 20010 lf) kb23 lf w1 := brel_cells bf ((@HR.below (PR112 u res r1 w1_ b0 b1 (s + 1) (d + 1) rv') _ _ _ _ _ r1_).block _ (.inr hEl)) (fun i x hi hx_ y hy => by
    have h1 := cellOf_mem (L := [z0, z2, (pN 14062), z0, (iN 9), .nilp]) (by decide) hx_
    simp only [List.mem_cons, List.not_mem_nil, or_false] at h1
    obtain ⟨lm, hlm⟩ := hM
    rcases h1 with rfl | rfl | rfl | rfl | rfl | rfl <;> simp only [vrel] at hy ⊢ <;> first | exact hy | (obtain ⟨l5, h6, h7⟩ := hy; rw [hx _ _ hlm] at h6; cases h6; exact ⟨lm, hext _ _ (hx1 _ _ hlm), h7⟩))
  have r2 := HR.addBack (T1 := (PR112 u res r1 w1_ b0 b1 (s + 1) (d + 1) rv')) r_ (nf rfl) rfl hEl r1_ (by rw [hOf_next]; decide) (by rw [hOf_next]; exact hbf) (glNone rfl rfl)
  rw [hOf_next] at r2
  have hip : IpOk (PR112 u res r1 w1_ b0 b1 (s + 1) (d + 1) rv') (PC012 v u res r1 w1_ b0 b1 s d rv) ip_u012 := (ipCons (ipN (.i64, ((s + 3 : Nat) : Int)) rfl rfl) (ipCons (ipN (.i64, ((d + 2 : Nat) : Int)) rfl rfl) (ipCons (ipN (.i64, w1_) rfl rfl) (ipCons (ipN (.i64, b0) rfl rfl) (ipCons (ipN (.i64, b1) rfl rfl) (ipCons (ipN (.i64, r1) rfl rfl) (ipCons (ipN (.i64, u) rfl rfl) (ipCons (ipN (.i64, res) rfl rfl) (ipCons (ipN (.i64, ((s + 1 : Nat) : Int)) rfl rfl) ipNil)))))))))
  have hip2 : IpOk (PE20 v r wd c0 c1 s d rv) (PC012 v u res r1 w1_ b0 b1 s d rv) ip2_012 := (ipCons (ipN (.i64, v) rfl rfl) (ipCons (ipN (.i64, ((s : Nat) : Int)) rfl rfl) ipNil))
  have hvp : ∀ p ∈ ([(20001, .vec 0, 0), (20002, .vec 1, 1), (20003, .vec 2, 2), (20004, .vec 3, 3)] : VP), own p.2.1 = true ∧ ∀ l, (upm μ1 20010 lf) p.1 = some l → @brel (PR112 u res r1 w1_ b0 b1 (s + 1) (d + 1) rv') (upm μ1 20010 lf) p.2.1 l w1 → @brel (PC012 v u res r1 w1_ b0 b1 s d rv) (ren 20000 (ofPairs rl_u012) (upm μ1 20010 lf)) (.vec p.2.2) l w1 :=
    (allCons ⟨rfl, fun l hl hb_ => vec_unhide (T1 := (PR112 u res r1 w1_ b0 b1 (s + 1) (d + 1) rv')) (T2 := (PC012 v u res r1 w1_ b0 b1 s d rv)) (C := ⟨20000, 20011, ofPairs rl_u012, ip_u012⟩) (i1 := 0) (i2 := 0) hip (c := 0) (n := 1) (L2 := [(oN 6), (oN 7)]) (L1' := [(oN 0)]) (L2' := [(oN 1), (oN 2)]) rfl rfl rfl (fun m hm => (by show rv' _ = rv _; rw [hrv]; exact q0.1 m hm)) (by rw [show ((PR112 u res r1 w1_ b0 b1 (s + 1) (d + 1) rv')).rv = snap w LL from hrv]; exact fun m x hx => (by
      obtain ⟨x0, k1, k2⟩ := cvL_get (C := ⟨20000, 20011, ofPairs [], ip2_012⟩) (l := [(oN 6), (oN 7)]) (by kernel_rfl) m x hx
      exact @vrel.plain (PC012 v u res r1 w1_ b0 b1 s d rv) _ _ x _ (List.all_eq_true.1 (by rfl : ([(oN 0)] : List AV).all plain = true) x (List.mem_of_getElem? hx)) (cvV_sound (T := (PE20 v r wd c0 c1 s d rv)) (T' := (PC012 v u res r1 w1_ b0 b1 s d rv)) hip2 k2 (q0.2 m x0 k1)))) (Nat.le_refl _) (by kernel_rfl) hb_⟩
    (allCons ⟨rfl, fun l hl hb_ => vec_unhide (T1 := (PR112 u res r1 w1_ b0 b1 (s + 1) (d + 1) rv')) (T2 := (PC012 v u res r1 w1_ b0 b1 s d rv)) (C := ⟨20000, 20011, ofPairs rl_u012, ip_u012⟩) (i1 := 1) (i2 := 1) hip (c := 1) (n := 1) (L2 := [bF, bF]) (L1' := [bF]) (L2' := [bF, bF]) rfl rfl rfl (fun m hm => (by show rv' _ = rv _; rw [hrv]; exact q1.1 m hm)) (by rw [show ((PR112 u res r1 w1_ b0 b1 (s + 1) (d + 1) rv')).rv = snap w LL from hrv]; exact fun m x hx => (by
      obtain ⟨x0, k1, k2⟩ := cvL_get (C := ⟨20000, 20011, ofPairs [], ip2_012⟩) (l := [bF, bF]) (by kernel_rfl) m x hx
      exact @vrel.plain (PC012 v u res r1 w1_ b0 b1 s d rv) _ _ x _ (List.all_eq_true.1 (by rfl : ([bF] : List AV).all plain = true) x (List.mem_of_getElem? hx)) (cvV_sound (T := (PE20 v r wd c0 c1 s d rv)) (T' := (PC012 v u res r1 w1_ b0 b1 s d rv)) hip2 k2 (q1.2 m x0 k1)))) (Nat.le_refl _) (by kernel_rfl) hb_⟩
    (allCons ⟨rfl, fun l hl hb_ => vec_unhide (T1 := (PR112 u res r1 w1_ b0 b1 (s + 1) (d + 1) rv')) (T2 := (PC012 v u res r1 w1_ b0 b1 s d rv)) (C := ⟨20000, 20011, ofPairs rl_u012, ip_u012⟩) (i1 := 2) (i2 := 2) hip (c := 2) (n := 7) (L2 := [z0, z1, (iN 9), (oN 8), z1, z2, z1]) (L1' := [z0, z0, (iN 9), (oN 7), z1, z2, z0]) (L2' := [z0, z1, (iN 9), (oN 8), z1, z2, z1]) rfl rfl rfl (fun m hm => (by show rv' _ = rv _; rw [hrv]; exact q2.1 m hm)) (by rw [show ((PR112 u res r1 w1_ b0 b1 (s + 1) (d + 1) rv')).rv = snap w LL from hrv]; exact fun m x hx => (by
      obtain ⟨x0, k1, k2⟩ := cvL_get (C := ⟨20000, 20011, ofPairs [], ip2_012⟩) (l := [z0, z0, (iN 9), (oN 8), z1, z2, z0, z0, z1, z0, (oN 9), z1, z2, z0]) (by kernel_rfl) m x hx
      exact @vrel.plain (PC012 v u res r1 w1_ b0 b1 s d rv) _ _ x _ (List.all_eq_true.1 (by rfl : ([z0, z0, (iN 9), (oN 7), z1, z2, z0] : List AV).all plain = true) x (List.mem_of_getElem? hx)) (cvV_sound (T := (PE20 v r wd c0 c1 s d rv)) (T' := (PC012 v u res r1 w1_ b0 b1 s d rv)) hip2 k2 (q2.2 m x0 k1)))) (Nat.le_refl _) (by kernel_rfl) hb_⟩
    (allCons ⟨rfl, fun l hl hb_ => vec_unhide (T1 := (PR112 u res r1 w1_ b0 b1 (s + 1) (d + 1) rv')) (T2 := (PC012 v u res r1 w1_ b0 b1 s d rv)) (C := ⟨20000, 20011, ofPairs rl_u012, ip_u012⟩) (i1 := 3) (i2 := 3) hip (c := 3) (n := 1) (L2 := [(pN 20005)]) (L1' := [(pN 20010)]) (L2' := [(pN 20005)]) rfl rfl rfl (fun m hm => (by show rv' _ = rv _; rw [hrv]; exact q3.1 m hm)) (by rw [show ((PR112 u res r1 w1_ b0 b1 (s + 1) (d + 1) rv')).rv = snap w LL from hrv]; exact fun m x hx => (by
      cases m with
      | succ m => simp at hx
      | zero =>
        cases hx
        have h5 := q3.2 0 (pN 20006) rfl
        simp only [vrel] at h5 ⊢
        obtain ⟨l5, h6, h7⟩ := h5
        rw [mf] at h6; cases h6
        exact ⟨lf, (by show (ofPairs rl_u012).get 20010 >>= upm μ1 20010 lf = some lf; rfl), h7⟩)) (Nat.le_refl _) (by kernel_rfl) hb_⟩
    allNil))))
  obtain ⟨p1, p2, p3⟩ := HR.weakIn (T := (PR112 u res r1 w1_ b0 b1 (s + 1) (d + 1) rv')) (T' := (PC012 v u res r1 w1_ b0 b1 s d rv)) (C := ⟨20000, 20011, ofPairs rl_u012, ip_u012⟩) (rl := rl_u012) hb (by decide) rfl (by kernel_rfl) hip (vp := [(20001, .vec 0, 0), (20002, .vec 1, 1), (20003, .vec 2, 2), (20004, .vec 3, 3)]) hvp (fs := fsR) (bs := bsC012) (by kernel_rfl) (by kernel_rfl) (hx1.trans hext) (f1.ext hext) r2 (glNone rfl rfl)
  exact ⟨_, p1, p2, p3⟩
def Hid1 (v r wd c0 c1 : Int) (s d : Nat) (rv : Nat → Value) (B : Kp) (w0 : World) (μ0 : M) (w : World) (rv' : Nat → Value) (E : Nat → Prop) : Prop :=
  ∃ (μ : M) (lf : X.Loc) (LL : Nat → X.Loc), Ext μ0 μ ∧ @HR (PE21 v r wd c0 c1 s d rv) B w0 μ (hOf 20010 bsE21) w ∧ μ 20006 = some lf ∧ E = (fun j => j = lf.block) ∧ rv' = snap w LL ∧ μ 20001 = some (LL 0) ∧ μ 20002 = some (LL 1) ∧ μ 20003 = some (LL 2) ∧ μ 20004 = some (LL 3)
noncomputable abbrev rl_h1 : List (Nat × Nat) := [(20000, 20000), (20001, 20001), (20002, 20002), (20003, 20003), (20004, 20004), (20005, 20005)]
noncomputable abbrev ip_h1 : IP := [(.oi 0, 7), (.oi 1, 8), (.oi 2, 2), (.oi 3, 3), (.oi 4, 4), (.oi 5, 1), (.oi 7, 0), (.oi 9, 5)]
theorem hide1 {v r wd c0 c1 : Int} {s d : Nat} {rv : Nat → Value} (hb : Base B μ0 20000) (s_ : SE21 v r wd c0 c1 s d rv B w0 μ0 a w) : ∃ rv' E, Hid1 v r wd c0 c1 s d rv B w0 μ0 w rv' E ∧ SE0 (v - 1) (r + 6) (wd + 7) (c0) (c1 + 6) (s + 1) (d + 1) rv' (B.also E) w μ0 a w := by
  obtain ⟨μ, hx, f, r_⟩ := s_
  have g := fun x b h => @HR.blk (PE21 v r wd c0 c1 s d rv) B w0 μ (hOf 20010 bsE21) w r_ x b h
  obtain ⟨l0, m0, _⟩ := g 20001 (.vec 0) (by kernel_rfl)
  obtain ⟨l1, m1, _⟩ := g 20002 (.vec 1) (by kernel_rfl)
  obtain ⟨l2, m2, _⟩ := g 20003 (.vec 2) (by kernel_rfl)
  obtain ⟨l3, m3, _⟩ := g 20004 (.vec 3) (by kernel_rfl)
  obtain ⟨lf, mf, _⟩ := g 20006 kb24 (by kernel_rfl)
  let LL : Nat → X.Loc := fun c => match c with | 0 => l0 | 1 => l1 | 2 => l2 | _ => l3
  refine ⟨snap w LL, fun j => j = lf.block, ⟨μ, lf, LL, hx, r_, mf, rfl, rfl, m0, m1, m2, m3⟩, ?_⟩
  have hip : IpOk (PE21 v r wd c0 c1 s d rv) (PE0 (v - 1) (r + 6) (wd + 7) (c0) (c1 + 6) (s + 1) (d + 1) (snap w LL)) ip_h1 := (ipCons (ipN (.i64, ((s + 2 : Nat) : Int)) rfl rfl) (ipCons (ipN (.i64, ((d + 2 : Nat) : Int)) rfl rfl) (ipCons (ipN (.i64, wd + 7) rfl rfl) (ipCons (ipN (.i64, c0) rfl rfl) (ipCons (ipN (.i64, c1 + 6) rfl rfl) (ipCons (ipN (.i64, r + 6) rfl rfl) (ipCons (ipN (.i64, v - 1) rfl rfl) (ipCons (ipN (.i64, ((s + 1 : Nat) : Int)) rfl rfl) ipNil))))))))
  have hvp : ∀ p ∈ ([(20001, .vec 0, 0), (20002, .vec 1, 1), (20003, .vec 2, 2), (20004, .vec 3, 3)] : VP), own p.2.1 = true ∧ ∀ l, μ p.1 = some l → @brel (PE21 v r wd c0 c1 s d rv) μ p.2.1 l w → @brel (PE0 (v - 1) (r + 6) (wd + 7) (c0) (c1 + 6) (s + 1) (d + 1) (snap w LL)) (ren 20000 (ofPairs rl_h1) μ) (.vec p.2.2) l w :=
    (allCons ⟨rfl, fun l hl hb_ => (by
    rw [m0] at hl; cases hl
    exact vec_hide (T := (PE21 v r wd c0 c1 s d rv)) (T' := (PE0 (v - 1) (r + 6) (wd + 7) (c0) (c1 + 6) (s + 1) (d + 1) (snap w LL))) (C := ⟨20000, 20010, ofPairs rl_h1, ip_h1⟩) (i := 0) (i' := 0) hip (c := 0) (L1 := [(oN 6)]) (L2 := [(oN 7)]) (LL := LL) (by decide) rfl rfl (by decide) rfl rfl (Nat.le_refl _) (by kernel_rfl) hb_)⟩
    (allCons ⟨rfl, fun l hl hb_ => (by
    rw [m1] at hl; cases hl
    exact vec_hide (T := (PE21 v r wd c0 c1 s d rv)) (T' := (PE0 (v - 1) (r + 6) (wd + 7) (c0) (c1 + 6) (s + 1) (d + 1) (snap w LL))) (C := ⟨20000, 20010, ofPairs rl_h1, ip_h1⟩) (i := 1) (i' := 1) hip (c := 1) (L1 := [bF]) (L2 := [bF]) (LL := LL) (by decide) rfl rfl (by decide) rfl rfl (Nat.le_refl _) (by kernel_rfl) hb_)⟩
    (allCons ⟨rfl, fun l hl hb_ => (by
    rw [m2] at hl; cases hl
    exact vec_hide (T := (PE21 v r wd c0 c1 s d rv)) (T' := (PE0 (v - 1) (r + 6) (wd + 7) (c0) (c1 + 6) (s + 1) (d + 1) (snap w LL))) (C := ⟨20000, 20010, ofPairs rl_h1, ip_h1⟩) (i := 2) (i' := 2) hip (c := 2) (L1 := [z0, z1, (iN 9), (oN 8), z1, z2, z0]) (L2 := [z0, z0, z0, (oN 9), z1, z2, z0]) (LL := LL) (by decide) rfl rfl (by decide) rfl rfl (Nat.le_refl _) (by kernel_rfl) hb_)⟩
    (allCons ⟨rfl, fun l hl hb_ => (by
    rw [m3] at hl; cases hl
    exact vec_hide (T := (PE21 v r wd c0 c1 s d rv)) (T' := (PE0 (v - 1) (r + 6) (wd + 7) (c0) (c1 + 6) (s + 1) (d + 1) (snap w LL))) (C := ⟨20000, 20010, ofPairs rl_h1, ip_h1⟩) (i := 3) (i' := 3) hip (c := 3) (L1 := [(pN 20006)]) (L2 := [(pN 20005)]) (LL := LL) (by decide) rfl rfl (by decide) rfl rfl (Nat.le_refl _) (by kernel_rfl) hb_)⟩
    allNil))))
  obtain ⟨q1, q2, q3⟩ := HR.weakAt (T := (PE21 v r wd c0 c1 s d rv)) (T' := (PE0 (v - 1) (r + 6) (wd + 7) (c0) (c1 + 6) (s + 1) (d + 1) (snap w LL))) (C := ⟨20000, 20010, ofPairs rl_h1, ip_h1⟩) (rl := rl_h1) hb (by decide) rfl (by kernel_rfl) hip (vp := [(20001, .vec 0, 0), (20002, .vec 1, 1), (20003, .vec 2, 2), (20004, .vec 3, 3)]) hvp (fs := fsR) (bs := bsE0) (E := fun j => j = lf.block)
    (aside_of (x := 20006) r_ (by kernel_rfl : _ = some kb24) rfl mf (by decide)) (by kernel_rfl) (by kernel_rfl) hx f r_ (fun _ => glNone rfl rfl)
  exact ⟨_, q1, q2, q3⟩
noncomputable abbrev rl_u15 : List (Nat × Nat) := [(20000, 20000), (20001, 20001), (20002, 20002), (20003, 20003), (20004, 20004), (20005, 20005), (20010, 20010)]
noncomputable abbrev ip_u15 : IP := [(.oi 0, 10), (.oi 1, 11), (.oi 2, 4), (.oi 3, 5), (.oi 4, 6), (.oi 5, 3), (.oi 6, 1), (.oi 7, 2), (.oi 8, 8)]
noncomputable abbrev ip2_15 : IP := [(.oi 6, 0), (.oi 8, 7)]
theorem unhide15 {v r wd c0 c1 u res r1 w1_ b0 b1 : Int} {s d : Nat} {rv rv' : Nat → Value} {E : Nat → Prop} (hM : ∃ l, μ0 14062 = some l) (hb : Base B μ0 20000) (hd : Hid1 v r wd c0 c1 s d rv B w0 μ0 w rv' E)
    (s_ : SR05 u res r1 w1_ b0 b1 (s + 1) (d + 1) rv' (B.also E) w μ0 a w1) : SC15 v u res r1 w1_ b0 b1 s d rv B w0 μ0 a w1 := by
  letI : Tab := (PR05 u res r1 w1_ b0 b1 (s + 1) (d + 1) rv')
  obtain ⟨μ, lf, LL, hx, r_, mf, hE, hrv, m0, m1, m2, m3⟩ := hd
  obtain ⟨μ1, hx1, f1, r1_⟩ := s_
  have g := fun x b h => @HR.blk (PE21 v r wd c0 c1 s d rv) B w0 μ (hOf 20010 bsE21) w r_ x b h
  obtain ⟨l0, k0, _, _, b0_⟩ := g 20001 (.vec 0) (by kernel_rfl)
  obtain ⟨l1, k1, _, _, b1_⟩ := g 20002 (.vec 1) (by kernel_rfl)
  obtain ⟨l2, k2, _, _, b2_⟩ := g 20003 (.vec 2) (by kernel_rfl)
  obtain ⟨l3, k3, _, _, b3_⟩ := g 20004 (.vec 3) (by kernel_rfl)
  obtain ⟨lf2, kf, nf, _, bf⟩ := g 20006 kb24 (by kernel_rfl)
  rw [m0] at k0; cases k0
  rw [m1] at k1; cases k1
  rw [m2] at k2; cases k2
  rw [m3] at k3; cases k3
  rw [mf] at kf; cases kf
  have q0 := vec_was (c := 0) (L := [(oN 6), (oN 7)]) (LL := LL) (by decide) rfl rfl b0_
  have q1 := vec_was (c := 1) (L := [bF, bF]) (LL := LL) (by decide) rfl rfl b1_
  have q2 := vec_was (c := 2) (L := [z0, z1, (iN 9), (oN 8), z1, z2, z0, z0, z0, z0, (oN 9), z1, z2, z0]) (LL := LL) (by decide) rfl rfl b2_
  have q3 := vec_was (c := 3) (L := [(pN 20006), (pN 20005)]) (LL := LL) (by decide) rfl rfl b3_
  have hEl : E lf.block := by rw [hE]
  have hext : Ext μ1 (upm μ1 20010 lf) := Ext.upm _ (@HR.fresh (PR05 u res r1 w1_ b0 b1 (s + 1) (d + 1) rv') _ _ _ _ _ r1_ 20010 (by rw [hOf_next]; exact Nat.le_refl _)).2
  have hbf : @brel (PR05 u res r1 w1_ b0 b1 (s + 1) (d + 1) rv') (upm μ1 20010 lf) kb24 lf w1 := brel_cells bf ((@HR.below (PR05 u res r1 w1_ b0 b1 (s + 1) (d + 1) rv') _ _ _ _ _ r1_).block _ (.inr hEl)) (fun i x hi hx_ y hy => by
    have h1 := cellOf_mem (L := [z0, z2, (pN 14062), z1, (iN 9), .nilp]) (by decide) hx_
    simp only [List.mem_cons, List.not_mem_nil, or_false] at h1
    obtain ⟨lm, hlm⟩ := hM
    rcases h1 with rfl | rfl | rfl | rfl | rfl | rfl <;> simp only [vrel] at hy ⊢ <;> first | exact hy | (obtain ⟨l5, h6, h7⟩ := hy; rw [hx _ _ hlm] at h6; cases h6; exact ⟨lm, hext _ _ (hx1 _ _ hlm), h7⟩))
  have r2 := HR.addBack (T1 := (PR05 u res r1 w1_ b0 b1 (s + 1) (d + 1) rv')) r_ (nf rfl) rfl hEl r1_ (by rw [hOf_next]; decide) (by rw [hOf_next]; exact hbf) (glNone rfl rfl)
  rw [hOf_next] at r2
  have hip : IpOk (PR05 u res r1 w1_ b0 b1 (s + 1) (d + 1) rv') (PC15 v u res r1 w1_ b0 b1 s d rv) ip_u15 := (ipCons (ipN (.i64, ((s + 3 : Nat) : Int)) rfl rfl) (ipCons (ipN (.i64, ((d + 2 : Nat) : Int)) rfl rfl) (ipCons (ipN (.i64, w1_) rfl rfl) (ipCons (ipN (.i64, b0) rfl rfl) (ipCons (ipN (.i64, b1) rfl rfl) (ipCons (ipN (.i64, r1) rfl rfl) (ipCons (ipN (.i64, u) rfl rfl) (ipCons (ipN (.i64, res) rfl rfl) (ipCons (ipN (.i64, ((s + 1 : Nat) : Int)) rfl rfl) ipNil)))))))))
  have hip2 : IpOk (PE21 v r wd c0 c1 s d rv) (PC15 v u res r1 w1_ b0 b1 s d rv) ip2_15 := (ipCons (ipN (.i64, v) rfl rfl) (ipCons (ipN (.i64, ((s : Nat) : Int)) rfl rfl) ipNil))
  have hvp : ∀ p ∈ ([(20001, .vec 0, 0), (20002, .vec 1, 1), (20003, .vec 2, 2), (20004, .vec 3, 3)] : VP), own p.2.1 = true ∧ ∀ l, (upm μ1 20010 lf) p.1 = some l → @brel (PR05 u res r1 w1_ b0 b1 (s + 1) (d + 1) rv') (upm μ1 20010 lf) p.2.1 l w1 → @brel (PC15 v u res r1 w1_ b0 b1 s d rv) (ren 20000 (ofPairs rl_u15) (upm μ1 20010 lf)) (.vec p.2.2) l w1 :=
    (allCons ⟨rfl, fun l hl hb_ => vec_unhide (T1 := (PR05 u res r1 w1_ b0 b1 (s + 1) (d + 1) rv')) (T2 := (PC15 v u res r1 w1_ b0 b1 s d rv)) (C := ⟨20000, 20011, ofPairs rl_u15, ip_u15⟩) (i1 := 0) (i2 := 0) hip (c := 0) (n := 1) (L2 := [(oN 6), (oN 7)]) (L1' := [(oN 0)]) (L2' := [(oN 1), (oN 2)]) rfl rfl rfl (fun m hm => (by show rv' _ = rv _; rw [hrv]; exact q0.1 m hm)) (by rw [show ((PR05 u res r1 w1_ b0 b1 (s + 1) (d + 1) rv')).rv = snap w LL from hrv]; exact fun m x hx => (by
      obtain ⟨x0, k1, k2⟩ := cvL_get (C := ⟨20000, 20011, ofPairs [], ip2_15⟩) (l := [(oN 6), (oN 7)]) (by kernel_rfl) m x hx
      exact @vrel.plain (PC15 v u res r1 w1_ b0 b1 s d rv) _ _ x _ (List.all_eq_true.1 (by rfl : ([(oN 0)] : List AV).all plain = true) x (List.mem_of_getElem? hx)) (cvV_sound (T := (PE21 v r wd c0 c1 s d rv)) (T' := (PC15 v u res r1 w1_ b0 b1 s d rv)) hip2 k2 (q0.2 m x0 k1)))) (Nat.le_refl _) (by kernel_rfl) hb_⟩
    (allCons ⟨rfl, fun l hl hb_ => vec_unhide (T1 := (PR05 u res r1 w1_ b0 b1 (s + 1) (d + 1) rv')) (T2 := (PC15 v u res r1 w1_ b0 b1 s d rv)) (C := ⟨20000, 20011, ofPairs rl_u15, ip_u15⟩) (i1 := 1) (i2 := 1) hip (c := 1) (n := 1) (L2 := [bF, bF]) (L1' := [bF]) (L2' := [bF, bF]) rfl rfl rfl (fun m hm => (by show rv' _ = rv _; rw [hrv]; exact q1.1 m hm)) (by rw [show ((PR05 u res r1 w1_ b0 b1 (s + 1) (d + 1) rv')).rv = snap w LL from hrv]; exact fun m x hx => (by
      obtain ⟨x0, k1, k2⟩ := cvL_get (C := ⟨20000, 20011, ofPairs [], ip2_15⟩) (l := [bF, bF]) (by kernel_rfl) m x hx
      exact @vrel.plain (PC15 v u res r1 w1_ b0 b1 s d rv) _ _ x _ (List.all_eq_true.1 (by rfl : ([bF] : List AV).all plain = true) x (List.mem_of_getElem? hx)) (cvV_sound (T := (PE21 v r wd c0 c1 s d rv)) (T' := (PC15 v u res r1 w1_ b0 b1 s d rv)) hip2 k2 (q1.2 m x0 k1)))) (Nat.le_refl _) (by kernel_rfl) hb_⟩
    (allCons ⟨rfl, fun l hl hb_ => vec_unhide (T1 := (PR05 u res r1 w1_ b0 b1 (s + 1) (d + 1) rv')) (T2 := (PC15 v u res r1 w1_ b0 b1 s d rv)) (C := ⟨20000, 20011, ofPairs rl_u15, ip_u15⟩) (i1 := 2) (i2 := 2) hip (c := 2) (n := 7) (L2 := [z0, z0, (iN 4), (oN 8), z1, z2, z1]) (L1' := [z0, z1, (iN 9), (oN 7), z1, z2, z0]) (L2' := [z0, z0, (iN 4), (oN 8), z1, z2, z1]) rfl rfl rfl (fun m hm => (by show rv' _ = rv _; rw [hrv]; exact q2.1 m hm)) (by rw [show ((PR05 u res r1 w1_ b0 b1 (s + 1) (d + 1) rv')).rv = snap w LL from hrv]; exact fun m x hx => (by
      obtain ⟨x0, k1, k2⟩ := cvL_get (C := ⟨20000, 20011, ofPairs [], ip2_15⟩) (l := [z0, z1, (iN 9), (oN 8), z1, z2, z0, z0, z0, z0, (oN 9), z1, z2, z0]) (by kernel_rfl) m x hx
      exact @vrel.plain (PC15 v u res r1 w1_ b0 b1 s d rv) _ _ x _ (List.all_eq_true.1 (by rfl : ([z0, z1, (iN 9), (oN 7), z1, z2, z0] : List AV).all plain = true) x (List.mem_of_getElem? hx)) (cvV_sound (T := (PE21 v r wd c0 c1 s d rv)) (T' := (PC15 v u res r1 w1_ b0 b1 s d rv)) hip2 k2 (q2.2 m x0 k1)))) (Nat.le_refl _) (by kernel_rfl) hb_⟩
    (allCons ⟨rfl, fun l hl hb_ => vec_unhide (T1 := (PR05 u res r1 w1_ b0 b1 (s + 1) (d + 1) rv')) (T2 := (PC15 v u res r1 w1_ b0 b1 s d rv)) (C := ⟨20000, 20011, ofPairs rl_u15, ip_u15⟩) (i1 := 3) (i2 := 3) hip (c := 3) (n := 1) (L2 := [(pN 20005)]) (L1' := [(pN 20010)]) (L2' := [(pN 20005)]) rfl rfl rfl (fun m hm => (by show rv' _ = rv _; rw [hrv]; exact q3.1 m hm)) (by rw [show ((PR05 u res r1 w1_ b0 b1 (s + 1) (d + 1) rv')).rv = snap w LL from hrv]; exact fun m x hx => (by
      cases m with
      | succ m => simp at hx
      | zero =>
        cases hx
        have h5 := q3.2 0 (pN 20006) rfl
        simp only [vrel] at h5 ⊢
        obtain ⟨l5, h6, h7⟩ := h5
        rw [mf] at h6; cases h6
        exact ⟨lf, (by show (ofPairs rl_u15).get 20010 >>= upm μ1 20010 lf = some lf; rfl), h7⟩)) (Nat.le_refl _) (by kernel_rfl) hb_⟩
    allNil))))
  obtain ⟨p1, p2, p3⟩ := HR.weakIn (T := (PR05 u res r1 w1_ b0 b1 (s + 1) (d + 1) rv')) (T' := (PC15 v u res r1 w1_ b0 b1 s d rv)) (C := ⟨20000, 20011, ofPairs rl_u15, ip_u15⟩) (rl := rl_u15) hb (by decide) rfl (by kernel_rfl) hip (vp := [(20001, .vec 0, 0), (20002, .vec 1, 1), (20003, .vec 2, 2), (20004, .vec 3, 3)]) hvp (fs := fsR) (bs := bsC15) (by kernel_rfl) (by kernel_rfl) (hx1.trans hext) (f1.ext hext) r2 (glNone rfl rfl)
  exact ⟨_, p1, p2, p3⟩
noncomputable abbrev rl_u112 : List (Nat × Nat) := [(20000, 20000), (20001, 20001), (20002, 20002), (20003, 20003), (20004, 20004), (20005, 20005), (20010, 20010)]
noncomputable abbrev ip_u112 : IP := [(.oi 0, 10), (.oi 1, 11), (.oi 2, 4), (.oi 3, 5), (.oi 4, 6), (.oi 5, 3), (.oi 6, 1), (.oi 7, 2), (.oi 8, 8)]
noncomputable abbrev ip2_112 : IP := [(.oi 6, 0), (.oi 8, 7)]
theorem unhide112 {v r wd c0 c1 u res r1 w1_ b0 b1 : Int} {s d : Nat} {rv rv' : Nat → Value} {E : Nat → Prop} (hM : ∃ l, μ0 14062 = some l) (hb : Base B μ0 20000) (hd : Hid1 v r wd c0 c1 s d rv B w0 μ0 w rv' E)
    (s_ : SR012 u res r1 w1_ b0 b1 (s + 1) (d + 1) rv' (B.also E) w μ0 a w1) : SC112 v u res r1 w1_ b0 b1 s d rv B w0 μ0 a w1 := by
  letI : Tab := (PR012 u res r1 w1_ b0 b1 (s + 1) (d + 1) rv')
  obtain ⟨μ, lf, LL, hx, r_, mf, hE, hrv, m0, m1, m2, m3⟩ := hd
  obtain ⟨μ1, hx1, f1, r1_⟩ := s_
  have g := fun x b h => @HR.blk (PE21 v r wd c0 c1 s d rv) B w0 μ (hOf 20010 bsE21) w r_ x b h
  obtain ⟨l0, k0, _, _, b0_⟩ := g 20001 (.vec 0) (by kernel_rfl)
  obtain ⟨l1, k1, _, _, b1_⟩ := g 20002 (.vec 1) (by kernel_rfl)
  obtain ⟨l2, k2, _, _, b2_⟩ := g 20003 (.vec 2) (by kernel_rfl)
  obtain ⟨l3, k3, _, _, b3_⟩ := g 20004 (.vec 3) (by kernel_rfl)
  obtain ⟨lf2, kf, nf, _, bf⟩ := g 20006 kb24 (by kernel_rfl)
  rw [m0] at k0; cases k0
  rw [m1] at k1; cases k1
  rw [m2] at k2; cases k2
  rw [m3] at k3; cases k3
  rw [mf] at kf; cases kf
  have q0 := vec_was (c := 0) (L := [(oN 6), (oN 7)]) (LL := LL) (by decide) rfl rfl b0_
  have q1 := vec_was (c := 1) (L := [bF, bF]) (LL := LL) (by decide) rfl rfl b1_
  have q2 := vec_was (c := 2) (L := [z0, z1, (iN 9), (oN 8), z1, z2, z0, z0, z0, z0, (oN 9), z1, z2, z0]) (LL := LL) (by decide) rfl rfl b2_
  have q3 := vec_was (c := 3) (L := [(pN 20006), (pN 20005)]) (LL := LL) (by decide) rfl rfl b3_
  have hEl : E lf.block := by rw [hE]
  have hext : Ext μ1 (upm μ1 20010 lf) := Ext.upm _ (@HR.fresh (PR012 u res r1 w1_ b0 b1 (s + 1) (d + 1) rv') _ _ _ _ _ r1_ 20010 (by rw [hOf_next]; exact Nat.le_refl _)).2
  have hbf : @brel (PR012 u res r1 w1_ b0 b1 (s + 1) (d + 1) rv') (upm μ1 20010 lf) kb24 lf w1 := brel_cells bf ((@HR.below (PR012 u res r1 w1_ b0 b1 (s + 1) (d + 1) rv') _ _ _ _ _ r1_).block _ (.inr hEl)) (fun i x hi hx_ y hy => by
    have h1 := cellOf_mem (L := [z0, z2, (pN 14062), z1, (iN 9), .nilp]) (by decide) hx_
    simp only [List.mem_cons, List.not_mem_nil, or_false] at h1
    obtain ⟨lm, hlm⟩ := hM
    rcases h1 with rfl | rfl | rfl | rfl | rfl | rfl <;> simp only [vrel] at hy ⊢ <;> first | exact hy | (obtain ⟨l5, h6, h7⟩ := hy; rw [hx _ _ hlm] at h6; cases h6; exact ⟨lm, hext _ _ (hx1 _ _ hlm), h7⟩))
  have r2 := HR.addBack (T1 := (PR012 u res r1 w1_ b0 b1 (s + 1) (d + 1) rv')) r_ (nf rfl) rfl hEl r1_ (by rw [hOf_next]; decide) (by rw [hOf_next]; exact hbf) (glNone rfl rfl)
  rw [hOf_next] at r2
  have hip : IpOk (PR012 u res r1 w1_ b0 b1 (s + 1) (d + 1) rv') (PC112 v u res r1 w1_ b0 b1 s d rv) ip_u112 := (ipCons (ipN (.i64, ((s + 3 : Nat) : Int)) rfl rfl) (ipCons (ipN (.i64, ((d + 2 : Nat) : Int)) rfl rfl) (ipCons (ipN (.i64, w1_) rfl rfl) (ipCons (ipN (.i64, b0) rfl rfl) (ipCons (ipN (.i64, b1) rfl rfl) (ipCons (ipN (.i64, r1) rfl rfl) (ipCons (ipN (.i64, u) rfl rfl) (ipCons (ipN (.i64, res) rfl rfl) (ipCons (ipN (.i64, ((s + 1 : Nat) : Int)) rfl rfl) ipNil)))))))))
  have hip2 : IpOk (PE21 v r wd c0 c1 s d rv) (PC112 v u res r1 w1_ b0 b1 s d rv) ip2_112 := (ipCons (ipN (.i64, v) rfl rfl) (ipCons (ipN (.i64, ((s : Nat) : Int)) rfl rfl) ipNil))
  have hvp : ∀ p ∈ ([(20001, .vec 0, 0), (20002, .vec 1, 1), (20003, .vec 2, 2), (20004, .vec 3, 3)] : VP), own p.2.1 = true ∧ ∀ l, (upm μ1 20010 lf) p.1 = some l → @brel (PR012 u res r1 w1_ b0 b1 (s + 1) (d + 1) rv') (upm μ1 20010 lf) p.2.1 l w1 → @brel (PC112 v u res r1 w1_ b0 b1 s d rv) (ren 20000 (ofPairs rl_u112) (upm μ1 20010 lf)) (.vec p.2.2) l w1 :=
    (allCons ⟨rfl, fun l hl hb_ => vec_unhide (T1 := (PR012 u res r1 w1_ b0 b1 (s + 1) (d + 1) rv')) (T2 := (PC112 v u res r1 w1_ b0 b1 s d rv)) (C := ⟨20000, 20011, ofPairs rl_u112, ip_u112⟩) (i1 := 0) (i2 := 0) hip (c := 0) (n := 1) (L2 := [(oN 6), (oN 7)]) (L1' := [(oN 0)]) (L2' := [(oN 1), (oN 2)]) rfl rfl rfl (fun m hm => (by show rv' _ = rv _; rw [hrv]; exact q0.1 m hm)) (by rw [show ((PR012 u res r1 w1_ b0 b1 (s + 1) (d + 1) rv')).rv = snap w LL from hrv]; exact fun m x hx => (by
      obtain ⟨x0, k1, k2⟩ := cvL_get (C := ⟨20000, 20011, ofPairs [], ip2_112⟩) (l := [(oN 6), (oN 7)]) (by kernel_rfl) m x hx
      exact @vrel.plain (PC112 v u res r1 w1_ b0 b1 s d rv) _ _ x _ (List.all_eq_true.1 (by rfl : ([(oN 0)] : List AV).all plain = true) x (List.mem_of_getElem? hx)) (cvV_sound (T := (PE21 v r wd c0 c1 s d rv)) (T' := (PC112 v u res r1 w1_ b0 b1 s d rv)) hip2 k2 (q0.2 m x0 k1)))) (Nat.le_refl _) (by kernel_rfl) hb_⟩
    (allCons ⟨rfl, fun l hl hb_ => vec_unhide (T1 := (PR012 u res r1 w1_ b0 b1 (s + 1) (d + 1) rv')) (T2 := (PC112 v u res r1 w1_ b0 b1 s d rv)) (C := ⟨20000, 20011, ofPairs rl_u112, ip_u112⟩) (i1 := 1) (i2 := 1) hip (c := 1) (n := 1) (L2 := [bF, bF]) (L1' := [bF]) (L2' := [bF, bF]) rfl rfl rfl (fun m hm => (by show rv' _ = rv _; rw [hrv]; exact q1.1 m hm)) (by rw [show ((PR012 u res r1 w1_ b0 b1 (s + 1) (d + 1) rv')).rv = snap w LL from hrv]; exact fun m x hx => (by
      obtain ⟨x0, k1, k2⟩ := cvL_get (C := ⟨20000, 20011, ofPairs [], ip2_112⟩) (l := [bF, bF]) (by kernel_rfl) m x hx
      exact @vrel.plain (PC112 v u res r1 w1_ b0 b1 s d rv) _ _ x _ (List.all_eq_true.1 (by rfl : ([bF] : List AV).all plain = true) x (List.mem_of_getElem? hx)) (cvV_sound (T := (PE21 v r wd c0 c1 s d rv)) (T' := (PC112 v u res r1 w1_ b0 b1 s d rv)) hip2 k2 (q1.2 m x0 k1)))) (Nat.le_refl _) (by kernel_rfl) hb_⟩
    (allCons ⟨rfl, fun l hl hb_ => vec_unhide (T1 := (PR012 u res r1 w1_ b0 b1 (s + 1) (d + 1) rv')) (T2 := (PC112 v u res r1 w1_ b0 b1 s d rv)) (C := ⟨20000, 20011, ofPairs rl_u112, ip_u112⟩) (i1 := 2) (i2 := 2) hip (c := 2) (n := 7) (L2 := [z0, z0, (iN 9), (oN 8), z1, z2, z1]) (L1' := [z0, z1, (iN 9), (oN 7), z1, z2, z0]) (L2' := [z0, z0, (iN 9), (oN 8), z1, z2, z1]) rfl rfl rfl (fun m hm => (by show rv' _ = rv _; rw [hrv]; exact q2.1 m hm)) (by rw [show ((PR012 u res r1 w1_ b0 b1 (s + 1) (d + 1) rv')).rv = snap w LL from hrv]; exact fun m x hx => (by
      obtain ⟨x0, k1, k2⟩ := cvL_get (C := ⟨20000, 20011, ofPairs [], ip2_112⟩) (l := [z0, z1, (iN 9), (oN 8), z1, z2, z0, z0, z0, z0, (oN 9), z1, z2, z0]) (by kernel_rfl) m x hx
      exact @vrel.plain (PC112 v u res r1 w1_ b0 b1 s d rv) _ _ x _ (List.all_eq_true.1 (by rfl : ([z0, z1, (iN 9), (oN 7), z1, z2, z0] : List AV).all plain = true) x (List.mem_of_getElem? hx)) (cvV_sound (T := (PE21 v r wd c0 c1 s d rv)) (T' := (PC112 v u res r1 w1_ b0 b1 s d rv)) hip2 k2 (q2.2 m x0 k1)))) (Nat.le_refl _) (by kernel_rfl) hb_⟩
    (allCons ⟨rfl, fun l hl hb_ => vec_unhide (T1 := (PR012 u res r1 w1_ b0 b1 (s + 1) (d + 1) rv')) (T2 := (PC112 v u res r1 w1_ b0 b1 s d rv)) (C := ⟨20000, 20011, ofPairs rl_u112, ip_u112⟩) (i1 := 3) (i2 := 3) hip (c := 3) (n := 1) (L2 := [(pN 20005)]) (L1' := [(pN 20010)]) (L2' := [(pN 20005)]) rfl rfl rfl (fun m hm => (by show rv' _ = rv _; rw [hrv]; exact q3.1 m hm)) (by rw [show ((PR012 u res r1 w1_ b0 b1 (s + 1) (d + 1) rv')).rv = snap w LL from hrv]; exact fun m x hx => (by
      cases m with
      | succ m => simp at hx
      | zero =>
        cases hx
        have h5 := q3.2 0 (pN 20006) rfl
        simp only [vrel] at h5 ⊢
        obtain ⟨l5, h6, h7⟩ := h5
        rw [mf] at h6; cases h6
        exact ⟨lf, (by show (ofPairs rl_u112).get 20010 >>= upm μ1 20010 lf = some lf; rfl), h7⟩)) (Nat.le_refl _) (by kernel_rfl) hb_⟩
    allNil))))
  obtain ⟨p1, p2, p3⟩ := HR.weakIn (T := (PR012 u res r1 w1_ b0 b1 (s + 1) (d + 1) rv')) (T' := (PC112 v u res r1 w1_ b0 b1 s d rv)) (C := ⟨20000, 20011, ofPairs rl_u112, ip_u112⟩) (rl := rl_u112) hb (by decide) rfl (by kernel_rfl) hip (vp := [(20001, .vec 0, 0), (20002, .vec 1, 1), (20003, .vec 2, 2), (20004, .vec 3, 3)]) hvp (fs := fsR) (bs := bsC112) (by kernel_rfl) (by kernel_rfl) (hx1.trans hext) (f1.ext hext) r2 (glNone rfl rfl)
  exact ⟨_, p1, p2, p3⟩
end
end Go.Proofs.YtfkfmjlppllfoaaGreatDoor.mu
