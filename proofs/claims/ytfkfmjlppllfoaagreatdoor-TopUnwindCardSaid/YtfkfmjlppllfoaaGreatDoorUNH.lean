/-
  Frames that are set aside while a call runs, and come back.
-/
import Derived.Test.YtfkfmjlppllfoaaGreatDoorUNN
import Derived.Test.YtfkfmjlppllfoaaGreatDoorUNS
import Derived.Test.YtfkfmjlppllfoaaGreatDoorXN3
import Derived.Test.YtfkfmjlppllfoaaGreatDoorUST
import Derived.Test.YtfkfmjlppllfoaaGreatDoorProg
import Derived.KernelRfl
set_option linter.unusedSectionVars false
set_option linter.unusedVariables false
set_option maxRecDepth 1000000
set_option maxHeartbeats 0
namespace Go.Proofs.YtfkfmjlppllfoaaGreatDoor.un
open Go.X Go.RowKit Go.Proofs.YtfkfmjlppllfoaaGreatDoor
theorem hOf_next {N : Nat} {bs : BS} : (hOf N bs).next = N := by unfold hOf; rw [fT_eq]
section
variable {B : Kp} {w0 w w1 : World} {μ0 : M} {a : Act}
def Hid_hideE (v : Int) (lv : Int) (r : Int) (wd : Int) (c0 : Int) (s : Nat) (d : Nat) (S : Nat) (W : Nat) (rv : Nat → Value) (B : Kp) (w0 : World) (μ0 : M) (w : World) (rv' : Nat → Value) (E : Nat → Prop) : Prop :=
  ∃ (μ : M) (lf : X.Loc) (LL : Nat → X.Loc), Ext μ0 μ ∧ @HR (PE2 v lv r wd c0 s d S W rv) B w0 μ (hOf 20040 bsE2) w ∧ μ 20006 = some lf ∧ E = (fun j => j = lf.block) ∧ rv' = snap w LL ∧ μ 20001 = some (LL 0) ∧ μ 20002 = some (LL 1) ∧ μ 20003 = some (LL 2) ∧ μ 20004 = some (LL 3)
noncomputable abbrev rl_hideE : List (Nat × Nat) := [(20000, 20000), (20001, 20001), (20002, 20002), (20003, 20003), (20004, 20004), (20005, 20005)]
noncomputable abbrev ip_hideE : IP := [(.oi 0, 7), (.oi 1, 8), (.oi 2, 3), (.oi 3, 4), (.oi 4, 2), (.oi 7, 0), (.oi 6, 1), (.oi 9, 5)]
theorem hideE {v : Int} {lv : Int} {r : Int} {wd : Int} {c0 : Int} {s : Nat} {d : Nat} {S : Nat} {W : Nat} {rv : Nat → Value} (hb : Base B μ0 20000) (s_ : SE2 v lv r wd c0 s d S W rv B w0 μ0 a w) : ∃ rv' E, Hid_hideE v lv r wd c0 s d S W rv B w0 μ0 w rv' E ∧ SE (v - 1) (lv) (r + 7) (wd + 9) (c0 + 7) (s + 2) (d + 1) (S) (W) rv' (B.also E) w μ0 a w := by
  obtain ⟨μ, hx, f, r_⟩ := s_
  have g := fun x b h => @HR.blk (PE2 v lv r wd c0 s d S W rv) B w0 μ (hOf 20040 bsE2) w r_ x b h
  obtain ⟨l0, m0, _⟩ := g 20001 (.vec 0) (by kernel_rfl)
  obtain ⟨l1, m1, _⟩ := g 20002 (.vec 1) (by kernel_rfl)
  obtain ⟨l2, m2, _⟩ := g 20003 (.vec 2) (by kernel_rfl)
  obtain ⟨l3, m3, _⟩ := g 20004 (.vec 3) (by kernel_rfl)
  obtain ⟨lf, mf, _⟩ := g 20006 kb28 (by kernel_rfl)
  let LL : Nat → X.Loc := fun c => match c with | 0 => l0 | 1 => l1 | 2 => l2 | _ => l3
  refine ⟨snap w LL, fun j => j = lf.block, ⟨μ, lf, LL, hx, r_, mf, rfl, rfl, m0, m1, m2, m3⟩, ?_⟩
  have hip : IpOk (PE2 v lv r wd c0 s d S W rv) (PE (v - 1) (lv) (r + 7) (wd + 9) (c0 + 7) (s + 2) (d + 1) (S) (W) (snap w LL)) ip_hideE := (ipCons (ipN (.i64, ((s + 5 : Nat) : Int)) rfl (show (IntKind.i64, (((s + 2) + 3 : Nat) : Int)) = (IntKind.i64, ((s + 5 : Nat) : Int)) from Prod.ext rfl (show ((((s + 2) + 3 : Nat) : Int) : Int) = ((s + 5 : Nat) : Int) by omega))) (ipCons (ipN (.i64, ((d + 2 : Nat) : Int)) rfl (show (IntKind.i64, (((d + 1) + 1 : Nat) : Int)) = (IntKind.i64, ((d + 2 : Nat) : Int)) from Prod.ext rfl (show ((((d + 1) + 1 : Nat) : Int) : Int) = ((d + 2 : Nat) : Int) by omega))) (ipCons (ipN (.i64, wd + 9) rfl (show (IntKind.i64, (wd + 9)) = (IntKind.i64, wd + 9) from Prod.ext rfl (show ((wd + 9) : Int) = wd + 9 by omega))) (ipCons (ipN (.i64, c0 + 7) rfl (show (IntKind.i64, (c0 + 7)) = (IntKind.i64, c0 + 7) from Prod.ext rfl (show ((c0 + 7) : Int) = c0 + 7 by omega))) (ipCons (ipN (.i64, r + 7) rfl (show (IntKind.i64, (r + 7)) = (IntKind.i64, r + 7) from Prod.ext rfl (show ((r + 7) : Int) = r + 7 by omega))) (ipCons (ipN (.i64, v - 1) rfl (show (IntKind.i64, (v - 1)) = (IntKind.i64, v - 1) from Prod.ext rfl (show ((v - 1) : Int) = v - 1 by omega))) (ipCons (ipN (.i64, lv) rfl rfl) (ipCons (ipN (.i64, ((s + 2 : Nat) : Int)) rfl (show (IntKind.i64, (((s + 2) : Nat) : Int)) = (IntKind.i64, ((s + 2 : Nat) : Int)) from Prod.ext rfl (show ((((s + 2) : Nat) : Int) : Int) = ((s + 2 : Nat) : Int) by omega))) ipNil))))))))
  have hvp : ∀ p ∈ ([(20001, .vec 0, 0), (20002, .vec 1, 1), (20003, .vec 2, 2), (20004, .vec 3, 3)] : VP), own p.2.1 = true ∧ ∀ l, μ p.1 = some l → @brel (PE2 v lv r wd c0 s d S W rv) μ p.2.1 l w → @brel (PE (v - 1) (lv) (r + 7) (wd + 9) (c0 + 7) (s + 2) (d + 1) (S) (W) (snap w LL)) (ren 20000 (ofPairs rl_hideE) μ) (.vec p.2.2) l w :=
    (allCons ⟨rfl, fun l hl hb_ => (by
    rw [m0] at hl; cases hl
    exact vec_hide (T := (PE2 v lv r wd c0 s d S W rv)) (T' := (PE (v - 1) (lv) (r + 7) (wd + 9) (c0 + 7) (s + 2) (d + 1) (S) (W) (snap w LL))) (C := ⟨20000, 20040, ofPairs rl_hideE, ip_hideE⟩) (i := 0) (i' := 0) hip (c := 0) (L1 := [(oN 5), (oN 6)]) (L2 := [(oN 7), (oN 6), (oN 7)]) (LL := LL) (by decide) rfl rfl (by decide) rfl rfl (Nat.le_refl _) (by kernel_rfl) hb_)⟩
    (allCons ⟨rfl, fun l hl hb_ => (by
    rw [m1] at hl; cases hl
    exact vec_hide (T := (PE2 v lv r wd c0 s d S W rv)) (T' := (PE (v - 1) (lv) (r + 7) (wd + 9) (c0 + 7) (s + 2) (d + 1) (S) (W) (snap w LL))) (C := ⟨20000, 20040, ofPairs rl_hideE, ip_hideE⟩) (i := 1) (i' := 1) hip (c := 1) (L1 := [bF, bF]) (L2 := [bF, bF, bF]) (LL := LL) (by decide) rfl rfl (by decide) rfl rfl (Nat.le_refl _) (by kernel_rfl) hb_)⟩
    (allCons ⟨rfl, fun l hl hb_ => (by
    rw [m2] at hl; cases hl
    exact vec_hide (T := (PE2 v lv r wd c0 s d S W rv)) (T' := (PE (v - 1) (lv) (r + 7) (wd + 9) (c0 + 7) (s + 2) (d + 1) (S) (W) (snap w LL))) (C := ⟨20000, 20040, ofPairs rl_hideE, ip_hideE⟩) (i := 2) (i' := 2) hip (c := 2) (L1 := [z0, z0, (iN 16), (oN 8), z2, (iN 3), z0]) (L2 := [z0, z0, z0, (oN 9), z2, (iN 3), z1]) (LL := LL) (by decide) rfl rfl (by decide) rfl rfl (Nat.le_refl _) (by kernel_rfl) hb_)⟩
    (allCons ⟨rfl, fun l hl hb_ => (by
    rw [m3] at hl; cases hl
    exact vec_hide (T := (PE2 v lv r wd c0 s d S W rv)) (T' := (PE (v - 1) (lv) (r + 7) (wd + 9) (c0 + 7) (s + 2) (d + 1) (S) (W) (snap w LL))) (C := ⟨20000, 20040, ofPairs rl_hideE, ip_hideE⟩) (i := 3) (i' := 3) hip (c := 3) (L1 := [(pN 20006)]) (L2 := [(pN 20005)]) (LL := LL) (by decide) rfl rfl (by decide) rfl rfl (Nat.le_refl _) (by kernel_rfl) hb_)⟩
    allNil))))
  obtain ⟨q1, q2, q3⟩ := HR.weakAt (T := (PE2 v lv r wd c0 s d S W rv)) (T' := (PE (v - 1) (lv) (r + 7) (wd + 9) (c0 + 7) (s + 2) (d + 1) (S) (W) (snap w LL))) (C := ⟨20000, 20040, ofPairs rl_hideE, ip_hideE⟩) (rl := rl_hideE) hb (by decide) rfl (by kernel_rfl) hip (vp := [(20001, .vec 0, 0), (20002, .vec 1, 1), (20003, .vec 2, 2), (20004, .vec 3, 3)]) hvp (fs := fsR) (bs := bsE) (E := fun j => j = lf.block)
    (aside_of (x := 20006) r_ (by kernel_rfl : _ = some kb28) rfl mf (by decide)) (by kernel_rfl) (by kernel_rfl) hx f r_ (fun _ => glNone rfl rfl)
  exact ⟨_, q1, q2, q3⟩
noncomputable abbrev rl_unX11 : List (Nat × Nat) := [(20000, 20000), (20001, 20001), (20002, 20002), (20003, 20003), (20004, 20004), (20005, 20005), (20021, 20021), (20022, 20022), (20023, 20023), (20024, 20024), (20025, 20025), (20040, 20040)]
noncomputable abbrev ip_unX11 : IP := [(.oi 0, 13), (.oi 1, 14), (.oi 2, 15), (.oi 3, 16), (.oi 4, 6), (.oi 5, 7), (.oi 6, 5), (.oi 7, 2), (.oi 8, 3), (.oi 9, 4), (.oi 10, 9), (.oi 11, 10)]
noncomputable abbrev ip2_unX11 : IP := [(.oi 5, 0), (.oi 6, 1), (.oi 8, 8)]
theorem unX11 {v lv r wd c0 u lu r1 w1_ b0 : Int} {s d S W S1 W1 : Nat} {rv rv' : Nat → Value} {E : Nat → Prop} (hM : ∃ l, μ0 14138 = some l) (hb : Base B μ0 20000) (hd : Hid_hideE v lv r wd c0 s d S W rv B w0 μ0 w rv' E)
    (s_ : SA11 (u) (lu) (r1) (w1_) (b0) (s + 2) (d + 1) (S1) (W1) rv' (B.also E) w μ0 a w1) : SX11 (v) (lv) (u) (lu) (r1) (w1_) (b0) (s) (d) (S1) (W1) rv B w0 μ0 a w1 := by
  letI : Tab := (PA11 (u) (lu) (r1) (w1_) (b0) (s + 2) (d + 1) (S1) (W1) rv')
  obtain ⟨μ, lf, LL, hx, r_, mf, hE, hrv, m0, m1, m2, m3⟩ := hd
  obtain ⟨μ1, hx1, f1, r1_⟩ := s_
  have g := fun x b h => @HR.blk (PE2 v lv r wd c0 s d S W rv) B w0 μ (hOf 20040 bsE2) w r_ x b h
  obtain ⟨l0, k0, _, _, b0_⟩ := g 20001 (.vec 0) (by kernel_rfl)
  obtain ⟨l1, k1, _, _, b1_⟩ := g 20002 (.vec 1) (by kernel_rfl)
  obtain ⟨l2, k2, _, _, b2_⟩ := g 20003 (.vec 2) (by kernel_rfl)
  obtain ⟨l3, k3, _, _, b3_⟩ := g 20004 (.vec 3) (by kernel_rfl)
  obtain ⟨lf2, kf, nf, _, bf⟩ := g 20006 kb28 (by kernel_rfl)
  rw [m0] at k0; cases k0
  rw [m1] at k1; cases k1
  rw [m2] at k2; cases k2
  rw [m3] at k3; cases k3
  rw [mf] at kf; cases kf
  have q0 := vec_was (c := 0) (L := [(oN 5), (oN 6), (oN 7), (oN 6), (oN 7)]) (LL := LL) (by decide) rfl rfl b0_
  have q1 := vec_was (c := 1) (L := [bF, bF, bF, bF, bF]) (LL := LL) (by decide) rfl rfl b1_
  have q2 := vec_was (c := 2) (L := [z0, z0, (iN 16), (oN 8), z2, (iN 3), z0, z0, z0, z0, (oN 9), z2, (iN 3), z1]) (LL := LL) (by decide) rfl rfl b2_
  have q3 := vec_was (c := 3) (L := [(pN 20006), (pN 20005)]) (LL := LL) (by decide) rfl rfl b3_
  have hEl : E lf.block := by rw [hE]
  have hext : Ext μ1 (upm μ1 20040 lf) := Ext.upm _ (@HR.fresh (PA11 (u) (lu) (r1) (w1_) (b0) (s + 2) (d + 1) (S1) (W1) rv') _ _ _ _ _ r1_ 20040 (by rw [hOf_next]; exact Nat.le_refl _)).2
  have hbf : @brel (PA11 (u) (lu) (r1) (w1_) (b0) (s + 2) (d + 1) (S1) (W1) rv') (upm μ1 20040 lf) kb28 lf w1 := brel_cells bf ((@HR.below (PA11 (u) (lu) (r1) (w1_) (b0) (s + 2) (d + 1) (S1) (W1) rv') _ _ _ _ _ r1_).block _ (.inr hEl)) (fun i x hi hx_ y hy => by
    have h1 := cellOf_mem (L := [z0, z2, (pN 14138), z0, (iN 16), .nilp]) (by decide) hx_
    simp only [List.mem_cons, List.not_mem_nil, or_false] at h1
    obtain ⟨lm, hlm⟩ := hM
    rcases h1 with rfl | rfl | rfl | rfl | rfl | rfl <;> simp only [vrel] at hy ⊢ <;> first | exact hy | (obtain ⟨l5, h6, h7⟩ := hy; rw [hx _ _ hlm] at h6; cases h6; exact ⟨lm, hext _ _ (hx1 _ _ hlm), h7⟩))
  have r2 := HR.addBack (T1 := (PA11 (u) (lu) (r1) (w1_) (b0) (s + 2) (d + 1) (S1) (W1) rv')) r_ (nf rfl) rfl hEl r1_ (by rw [hOf_next]; decide) (by rw [hOf_next]; exact hbf) (glNone rfl rfl)
  rw [hOf_next] at r2
  have hip : IpOk (PA11 (u) (lu) (r1) (w1_) (b0) (s + 2) (d + 1) (S1) (W1) rv') (PX11 (v) (lv) (u) (lu) (r1) (w1_) (b0) (s) (d) (S1) (W1) rv) ip_unX11 := (ipCons (ipN (.i64, ((W1 + 3 : Nat) : Int)) rfl rfl) (ipCons (ipN (.i64, ((S1 + 1 : Nat) : Int)) rfl rfl) (ipCons (ipN (.i64, (((s + 2) + 3 : Nat) : Int)) rfl (show (IntKind.i64, ((s + 5 : Nat) : Int)) = (IntKind.i64, (((s + 2) + 3 : Nat) : Int)) from Prod.ext rfl (show (((s + 5 : Nat) : Int) : Int) = (((s + 2) + 3 : Nat) : Int) by omega))) (ipCons (ipN (.i64, (((d + 1) + 1 : Nat) : Int)) rfl (show (IntKind.i64, ((d + 2 : Nat) : Int)) = (IntKind.i64, (((d + 1) + 1 : Nat) : Int)) from Prod.ext rfl (show (((d + 2 : Nat) : Int) : Int) = (((d + 1) + 1 : Nat) : Int) by omega))) (ipCons (ipN (.i64, w1_) rfl rfl) (ipCons (ipN (.i64, b0) rfl rfl) (ipCons (ipN (.i64, r1) rfl rfl) (ipCons (ipN (.i64, u) rfl rfl) (ipCons (ipN (.i64, lu) rfl rfl) (ipCons (ipN (.i64, ((W1 + 1 : Nat) : Int)) rfl rfl) (ipCons (ipN (.i64, (((s + 2) : Nat) : Int)) rfl (show (IntKind.i64, ((s + 2 : Nat) : Int)) = (IntKind.i64, (((s + 2) : Nat) : Int)) from Prod.ext rfl (show (((s + 2 : Nat) : Int) : Int) = (((s + 2) : Nat) : Int) by omega))) (ipCons (ipN (.i64, ((W1 : Nat) : Int)) rfl rfl) ipNil))))))))))))
  have hip2 : IpOk (PE2 v lv r wd c0 s d S W rv) (PX11 (v) (lv) (u) (lu) (r1) (w1_) (b0) (s) (d) (S1) (W1) rv) ip2_unX11 := (ipCons (ipN (.i64, v) rfl rfl) (ipCons (ipN (.i64, lv) rfl rfl) (ipCons (ipN (.i64, ((s : Nat) : Int)) rfl rfl) ipNil)))
  have hvp : ∀ p ∈ ([(20001, .vec 0, 2), (20002, .vec 1, 3), (20003, .vec 2, 4), (20004, .vec 3, 5), (20021, .vec 4, 0), (20022, .vec 5, 1)] : VP), own p.2.1 = true ∧ ∀ l, (upm μ1 20040 lf) p.1 = some l → @brel (PA11 (u) (lu) (r1) (w1_) (b0) (s + 2) (d + 1) (S1) (W1) rv') (upm μ1 20040 lf) p.2.1 l w1 → @brel (PX11 (v) (lv) (u) (lu) (r1) (w1_) (b0) (s) (d) (S1) (W1) rv) (ren 20000 (ofPairs rl_unX11) (upm μ1 20040 lf)) (.vec p.2.2) l w1 :=
    (allCons ⟨rfl, fun l hl hb_ => vec_unhide (T1 := (PA11 (u) (lu) (r1) (w1_) (b0) (s + 2) (d + 1) (S1) (W1) rv')) (T2 := (PX11 (v) (lv) (u) (lu) (r1) (w1_) (b0) (s) (d) (S1) (W1) rv)) (C := ⟨20000, 20041, ofPairs rl_unX11, ip_unX11⟩) (i1 := 0) (i2 := 2) hip (c := 0) (n := 2) (L2 := [(oN 7), (oN 8), (oN 9)]) (L1' := [(oN 0), (oN 1)]) (L2' := [(oN 2), (oN 3), (oN 4)]) rfl rfl rfl (fun m hm => (by show rv' _ = rv _; rw [hrv]; exact q0.1 m hm)) (by rw [show ((PA11 (u) (lu) (r1) (w1_) (b0) (s + 2) (d + 1) (S1) (W1) rv')).rv = snap w LL from hrv]; exact fun m x hx => (by
      obtain ⟨x0, k1, k2⟩ := cvL_get (C := ⟨20000, 20041, ofPairs [], ip2_unX11⟩) (l := [(oN 5), (oN 6), (oN 7), (oN 6), (oN 7)]) (by kernel_rfl) m x hx
      exact @vrel.plain (PX11 (v) (lv) (u) (lu) (r1) (w1_) (b0) (s) (d) (S1) (W1) rv) _ _ x _ (List.all_eq_true.1 (by rfl : ([(oN 0), (oN 1)] : List AV).all plain = true) x (List.mem_of_getElem? hx)) (cvV_sound (T := (PE2 v lv r wd c0 s d S W rv)) (T' := (PX11 (v) (lv) (u) (lu) (r1) (w1_) (b0) (s) (d) (S1) (W1) rv)) hip2 k2 (q0.2 m x0 k1)))) (Nat.le_refl _) (by kernel_rfl) hb_⟩
    (allCons ⟨rfl, fun l hl hb_ => vec_unhide (T1 := (PA11 (u) (lu) (r1) (w1_) (b0) (s + 2) (d + 1) (S1) (W1) rv')) (T2 := (PX11 (v) (lv) (u) (lu) (r1) (w1_) (b0) (s) (d) (S1) (W1) rv)) (C := ⟨20000, 20041, ofPairs rl_unX11, ip_unX11⟩) (i1 := 1) (i2 := 3) hip (c := 1) (n := 2) (L2 := [bF, bF, bT]) (L1' := [bF, bF]) (L2' := [bF, bF, bT]) rfl rfl rfl (fun m hm => (by show rv' _ = rv _; rw [hrv]; exact q1.1 m hm)) (by rw [show ((PA11 (u) (lu) (r1) (w1_) (b0) (s + 2) (d + 1) (S1) (W1) rv')).rv = snap w LL from hrv]; exact fun m x hx => (by
      obtain ⟨x0, k1, k2⟩ := cvL_get (C := ⟨20000, 20041, ofPairs [], ip2_unX11⟩) (l := [bF, bF, bF, bF, bF]) (by kernel_rfl) m x hx
      exact @vrel.plain (PX11 (v) (lv) (u) (lu) (r1) (w1_) (b0) (s) (d) (S1) (W1) rv) _ _ x _ (List.all_eq_true.1 (by rfl : ([bF, bF] : List AV).all plain = true) x (List.mem_of_getElem? hx)) (cvV_sound (T := (PE2 v lv r wd c0 s d S W rv)) (T' := (PX11 (v) (lv) (u) (lu) (r1) (w1_) (b0) (s) (d) (S1) (W1) rv)) hip2 k2 (q1.2 m x0 k1)))) (Nat.le_refl _) (by kernel_rfl) hb_⟩
    (allCons ⟨rfl, fun l hl hb_ => vec_unhide (T1 := (PA11 (u) (lu) (r1) (w1_) (b0) (s + 2) (d + 1) (S1) (W1) rv')) (T2 := (PX11 (v) (lv) (u) (lu) (r1) (w1_) (b0) (s) (d) (S1) (W1) rv)) (C := ⟨20000, 20041, ofPairs rl_unX11, ip_unX11⟩) (i1 := 2) (i2 := 4) hip (c := 2) (n := 7) (L2 := [z0, z0, (iN 8), (oN 10), z2, (iN 3), z1]) (L1' := [z0, z0, (iN 16), (oN 8), z2, (iN 3), z0]) (L2' := [z0, z0, (iN 8), (oN 9), z2, (iN 3), z1]) rfl rfl rfl (fun m hm => (by show rv' _ = rv _; rw [hrv]; exact q2.1 m hm)) (by rw [show ((PA11 (u) (lu) (r1) (w1_) (b0) (s + 2) (d + 1) (S1) (W1) rv')).rv = snap w LL from hrv]; exact fun m x hx => (by
      obtain ⟨x0, k1, k2⟩ := cvL_get (C := ⟨20000, 20041, ofPairs [], ip2_unX11⟩) (l := [z0, z0, (iN 16), (oN 8), z2, (iN 3), z0, z0, z0, z0, (oN 9), z2, (iN 3), z1]) (by kernel_rfl) m x hx
      exact @vrel.plain (PX11 (v) (lv) (u) (lu) (r1) (w1_) (b0) (s) (d) (S1) (W1) rv) _ _ x _ (List.all_eq_true.1 (by rfl : ([z0, z0, (iN 16), (oN 8), z2, (iN 3), z0] : List AV).all plain = true) x (List.mem_of_getElem? hx)) (cvV_sound (T := (PE2 v lv r wd c0 s d S W rv)) (T' := (PX11 (v) (lv) (u) (lu) (r1) (w1_) (b0) (s) (d) (S1) (W1) rv)) hip2 k2 (q2.2 m x0 k1)))) (Nat.le_refl _) (by kernel_rfl) hb_⟩
    (allCons ⟨rfl, fun l hl hb_ => vec_unhide (T1 := (PA11 (u) (lu) (r1) (w1_) (b0) (s + 2) (d + 1) (S1) (W1) rv')) (T2 := (PX11 (v) (lv) (u) (lu) (r1) (w1_) (b0) (s) (d) (S1) (W1) rv)) (C := ⟨20000, 20041, ofPairs rl_unX11, ip_unX11⟩) (i1 := 3) (i2 := 5) hip (c := 3) (n := 1) (L2 := [(pN 20005)]) (L1' := [(pN 20040)]) (L2' := [(pN 20005)]) rfl rfl rfl (fun m hm => (by show rv' _ = rv _; rw [hrv]; exact q3.1 m hm)) (by rw [show ((PA11 (u) (lu) (r1) (w1_) (b0) (s + 2) (d + 1) (S1) (W1) rv')).rv = snap w LL from hrv]; exact fun m x hx => (by
      cases m with
      | succ m => simp at hx
      | zero =>
        cases hx
        have h5 := q3.2 0 (pN 20006) rfl
        simp only [vrel] at h5 ⊢
        obtain ⟨l5, h6, h7⟩ := h5
        rw [mf] at h6; cases h6
        exact ⟨lf, (by show (ofPairs rl_unX11).get 20040 >>= upm μ1 20040 lf = some lf; rfl), h7⟩)) (Nat.le_refl _) (by kernel_rfl) hb_⟩
    (allCons ⟨rfl, fun l hl hb_ => (vpG (T := (PA11 (u) (lu) (r1) (w1_) (b0) (s + 2) (d + 1) (S1) (W1) rv')) (T' := (PX11 (v) (lv) (u) (lu) (r1) (w1_) (b0) (s) (d) (S1) (W1) rv)) (C := ⟨20000, 20041, ofPairs rl_unX11, ip_unX11⟩) (i := 4) (i' := 0) hip 0 (g := noG) (L := [(.int .u64 3), (.int .u64 0), (.int .u64 0)]) (L' := [(.int .u64 3), (.int .u64 0), (.int .u64 0)]) rfl rfl noG_int (Nat.le_refl _) bs.noZero (by kernel_rfl)).2 _ l w1 hb_⟩
    (allCons ⟨rfl, fun l hl hb_ => (vpG (T := (PA11 (u) (lu) (r1) (w1_) (b0) (s + 2) (d + 1) (S1) (W1) rv')) (T' := (PX11 (v) (lv) (u) (lu) (r1) (w1_) (b0) (s) (d) (S1) (W1) rv)) (C := ⟨20000, 20041, ofPairs rl_unX11, ip_unX11⟩) (i := 5) (i' := 1) hip 0 (g := bs.stG) (L := [(oN 11)]) (L' := [(oN 10)]) rfl rfl bs.stG_int (Nat.le_refl _) bs.noZero (by kernel_rfl)).2 _ l w1 hb_⟩
    allNil))))))
  obtain ⟨p1, p2, p3⟩ := HR.weakIn (T := (PA11 (u) (lu) (r1) (w1_) (b0) (s + 2) (d + 1) (S1) (W1) rv')) (T' := (PX11 (v) (lv) (u) (lu) (r1) (w1_) (b0) (s) (d) (S1) (W1) rv)) (C := ⟨20000, 20041, ofPairs rl_unX11, ip_unX11⟩) (rl := rl_unX11) hb (by decide) rfl (by kernel_rfl) hip (vp := [(20001, .vec 0, 2), (20002, .vec 1, 3), (20003, .vec 2, 4), (20004, .vec 3, 5), (20021, .vec 4, 0), (20022, .vec 5, 1)]) hvp (fs := fsR) (bs := bsX11) (by kernel_rfl) (by kernel_rfl) (hx1.trans hext) (f1.ext hext) r2 (glNone rfl rfl)
  exact ⟨_, p1, p2, p3⟩
noncomputable abbrev rl_unX35 : List (Nat × Nat) := [(20000, 20000), (20001, 20001), (20002, 20002), (20003, 20003), (20004, 20004), (20005, 20005), (20021, 20021), (20022, 20022), (20023, 20023), (20024, 20024), (20025, 20025), (20040, 20040)]
noncomputable abbrev ip_unX35 : IP := [(.oi 0, 13), (.oi 1, 14), (.oi 2, 15), (.oi 3, 16), (.oi 4, 6), (.oi 5, 7), (.oi 6, 5), (.oi 7, 2), (.oi 8, 3), (.oi 9, 4), (.oi 10, 9), (.oi 11, 10)]
noncomputable abbrev ip2_unX35 : IP := [(.oi 5, 0), (.oi 6, 1), (.oi 8, 8)]
theorem unX35 {v lv r wd c0 u lu r1 w1_ b0 : Int} {s d S W S1 W1 : Nat} {rv rv' : Nat → Value} {E : Nat → Prop} (hM : ∃ l, μ0 14138 = some l) (hb : Base B μ0 20000) (hd : Hid_hideE v lv r wd c0 s d S W rv B w0 μ0 w rv' E)
    (s_ : SA35 (u) (lu) (r1) (w1_) (b0) (s + 2) (d + 1) (S1) (W1) rv' (B.also E) w μ0 a w1) : SX35 (v) (lv) (u) (lu) (r1) (w1_) (b0) (s) (d) (S1) (W1) rv B w0 μ0 a w1 := by
  letI : Tab := (PA35 (u) (lu) (r1) (w1_) (b0) (s + 2) (d + 1) (S1) (W1) rv')
  obtain ⟨μ, lf, LL, hx, r_, mf, hE, hrv, m0, m1, m2, m3⟩ := hd
  obtain ⟨μ1, hx1, f1, r1_⟩ := s_
  have g := fun x b h => @HR.blk (PE2 v lv r wd c0 s d S W rv) B w0 μ (hOf 20040 bsE2) w r_ x b h
  obtain ⟨l0, k0, _, _, b0_⟩ := g 20001 (.vec 0) (by kernel_rfl)
  obtain ⟨l1, k1, _, _, b1_⟩ := g 20002 (.vec 1) (by kernel_rfl)
  obtain ⟨l2, k2, _, _, b2_⟩ := g 20003 (.vec 2) (by kernel_rfl)
  obtain ⟨l3, k3, _, _, b3_⟩ := g 20004 (.vec 3) (by kernel_rfl)
  obtain ⟨lf2, kf, nf, _, bf⟩ := g 20006 kb28 (by kernel_rfl)
  rw [m0] at k0; cases k0
  rw [m1] at k1; cases k1
  rw [m2] at k2; cases k2
  rw [m3] at k3; cases k3
  rw [mf] at kf; cases kf
  have q0 := vec_was (c := 0) (L := [(oN 5), (oN 6), (oN 7), (oN 6), (oN 7)]) (LL := LL) (by decide) rfl rfl b0_
  have q1 := vec_was (c := 1) (L := [bF, bF, bF, bF, bF]) (LL := LL) (by decide) rfl rfl b1_
  have q2 := vec_was (c := 2) (L := [z0, z0, (iN 16), (oN 8), z2, (iN 3), z0, z0, z0, z0, (oN 9), z2, (iN 3), z1]) (LL := LL) (by decide) rfl rfl b2_
  have q3 := vec_was (c := 3) (L := [(pN 20006), (pN 20005)]) (LL := LL) (by decide) rfl rfl b3_
  have hEl : E lf.block := by rw [hE]
  have hext : Ext μ1 (upm μ1 20040 lf) := Ext.upm _ (@HR.fresh (PA35 (u) (lu) (r1) (w1_) (b0) (s + 2) (d + 1) (S1) (W1) rv') _ _ _ _ _ r1_ 20040 (by rw [hOf_next]; exact Nat.le_refl _)).2
  have hbf : @brel (PA35 (u) (lu) (r1) (w1_) (b0) (s + 2) (d + 1) (S1) (W1) rv') (upm μ1 20040 lf) kb28 lf w1 := brel_cells bf ((@HR.below (PA35 (u) (lu) (r1) (w1_) (b0) (s + 2) (d + 1) (S1) (W1) rv') _ _ _ _ _ r1_).block _ (.inr hEl)) (fun i x hi hx_ y hy => by
    have h1 := cellOf_mem (L := [z0, z2, (pN 14138), z0, (iN 16), .nilp]) (by decide) hx_
    simp only [List.mem_cons, List.not_mem_nil, or_false] at h1
    obtain ⟨lm, hlm⟩ := hM
    rcases h1 with rfl | rfl | rfl | rfl | rfl | rfl <;> simp only [vrel] at hy ⊢ <;> first | exact hy | (obtain ⟨l5, h6, h7⟩ := hy; rw [hx _ _ hlm] at h6; cases h6; exact ⟨lm, hext _ _ (hx1 _ _ hlm), h7⟩))
  have r2 := HR.addBack (T1 := (PA35 (u) (lu) (r1) (w1_) (b0) (s + 2) (d + 1) (S1) (W1) rv')) r_ (nf rfl) rfl hEl r1_ (by rw [hOf_next]; decide) (by rw [hOf_next]; exact hbf) (glNone rfl rfl)
  rw [hOf_next] at r2
  have hip : IpOk (PA35 (u) (lu) (r1) (w1_) (b0) (s + 2) (d + 1) (S1) (W1) rv') (PX35 (v) (lv) (u) (lu) (r1) (w1_) (b0) (s) (d) (S1) (W1) rv) ip_unX35 := (ipCons (ipN (.i64, ((W1 + 3 : Nat) : Int)) rfl rfl) (ipCons (ipN (.i64, ((S1 + 1 : Nat) : Int)) rfl rfl) (ipCons (ipN (.i64, (((s + 2) + 3 : Nat) : Int)) rfl (show (IntKind.i64, ((s + 5 : Nat) : Int)) = (IntKind.i64, (((s + 2) + 3 : Nat) : Int)) from Prod.ext rfl (show (((s + 5 : Nat) : Int) : Int) = (((s + 2) + 3 : Nat) : Int) by omega))) (ipCons (ipN (.i64, (((d + 1) + 1 : Nat) : Int)) rfl (show (IntKind.i64, ((d + 2 : Nat) : Int)) = (IntKind.i64, (((d + 1) + 1 : Nat) : Int)) from Prod.ext rfl (show (((d + 2 : Nat) : Int) : Int) = (((d + 1) + 1 : Nat) : Int) by omega))) (ipCons (ipN (.i64, w1_) rfl rfl) (ipCons (ipN (.i64, b0) rfl rfl) (ipCons (ipN (.i64, r1) rfl rfl) (ipCons (ipN (.i64, u) rfl rfl) (ipCons (ipN (.i64, lu) rfl rfl) (ipCons (ipN (.i64, ((W1 + 1 : Nat) : Int)) rfl rfl) (ipCons (ipN (.i64, (((s + 2) : Nat) : Int)) rfl (show (IntKind.i64, ((s + 2 : Nat) : Int)) = (IntKind.i64, (((s + 2) : Nat) : Int)) from Prod.ext rfl (show (((s + 2 : Nat) : Int) : Int) = (((s + 2) : Nat) : Int) by omega))) (ipCons (ipN (.i64, ((W1 : Nat) : Int)) rfl rfl) ipNil))))))))))))
  have hip2 : IpOk (PE2 v lv r wd c0 s d S W rv) (PX35 (v) (lv) (u) (lu) (r1) (w1_) (b0) (s) (d) (S1) (W1) rv) ip2_unX35 := (ipCons (ipN (.i64, v) rfl rfl) (ipCons (ipN (.i64, lv) rfl rfl) (ipCons (ipN (.i64, ((s : Nat) : Int)) rfl rfl) ipNil)))
  have hvp : ∀ p ∈ ([(20001, .vec 0, 2), (20002, .vec 1, 3), (20003, .vec 2, 4), (20004, .vec 3, 5), (20021, .vec 4, 0), (20022, .vec 5, 1)] : VP), own p.2.1 = true ∧ ∀ l, (upm μ1 20040 lf) p.1 = some l → @brel (PA35 (u) (lu) (r1) (w1_) (b0) (s + 2) (d + 1) (S1) (W1) rv') (upm μ1 20040 lf) p.2.1 l w1 → @brel (PX35 (v) (lv) (u) (lu) (r1) (w1_) (b0) (s) (d) (S1) (W1) rv) (ren 20000 (ofPairs rl_unX35) (upm μ1 20040 lf)) (.vec p.2.2) l w1 :=
    (allCons ⟨rfl, fun l hl hb_ => vec_unhide (T1 := (PA35 (u) (lu) (r1) (w1_) (b0) (s + 2) (d + 1) (S1) (W1) rv')) (T2 := (PX35 (v) (lv) (u) (lu) (r1) (w1_) (b0) (s) (d) (S1) (W1) rv)) (C := ⟨20000, 20041, ofPairs rl_unX35, ip_unX35⟩) (i1 := 0) (i2 := 2) hip (c := 0) (n := 2) (L2 := [(oN 7), (oN 8), (oN 9)]) (L1' := [(oN 0), (oN 1)]) (L2' := [(oN 2), (oN 3), (oN 4)]) rfl rfl rfl (fun m hm => (by show rv' _ = rv _; rw [hrv]; exact q0.1 m hm)) (by rw [show ((PA35 (u) (lu) (r1) (w1_) (b0) (s + 2) (d + 1) (S1) (W1) rv')).rv = snap w LL from hrv]; exact fun m x hx => (by
      obtain ⟨x0, k1, k2⟩ := cvL_get (C := ⟨20000, 20041, ofPairs [], ip2_unX35⟩) (l := [(oN 5), (oN 6), (oN 7), (oN 6), (oN 7)]) (by kernel_rfl) m x hx
      exact @vrel.plain (PX35 (v) (lv) (u) (lu) (r1) (w1_) (b0) (s) (d) (S1) (W1) rv) _ _ x _ (List.all_eq_true.1 (by rfl : ([(oN 0), (oN 1)] : List AV).all plain = true) x (List.mem_of_getElem? hx)) (cvV_sound (T := (PE2 v lv r wd c0 s d S W rv)) (T' := (PX35 (v) (lv) (u) (lu) (r1) (w1_) (b0) (s) (d) (S1) (W1) rv)) hip2 k2 (q0.2 m x0 k1)))) (Nat.le_refl _) (by kernel_rfl) hb_⟩
    (allCons ⟨rfl, fun l hl hb_ => vec_unhide (T1 := (PA35 (u) (lu) (r1) (w1_) (b0) (s + 2) (d + 1) (S1) (W1) rv')) (T2 := (PX35 (v) (lv) (u) (lu) (r1) (w1_) (b0) (s) (d) (S1) (W1) rv)) (C := ⟨20000, 20041, ofPairs rl_unX35, ip_unX35⟩) (i1 := 1) (i2 := 3) hip (c := 1) (n := 2) (L2 := [bF, bF, bT]) (L1' := [bF, bF]) (L2' := [bF, bF, bT]) rfl rfl rfl (fun m hm => (by show rv' _ = rv _; rw [hrv]; exact q1.1 m hm)) (by rw [show ((PA35 (u) (lu) (r1) (w1_) (b0) (s + 2) (d + 1) (S1) (W1) rv')).rv = snap w LL from hrv]; exact fun m x hx => (by
      obtain ⟨x0, k1, k2⟩ := cvL_get (C := ⟨20000, 20041, ofPairs [], ip2_unX35⟩) (l := [bF, bF, bF, bF, bF]) (by kernel_rfl) m x hx
      exact @vrel.plain (PX35 (v) (lv) (u) (lu) (r1) (w1_) (b0) (s) (d) (S1) (W1) rv) _ _ x _ (List.all_eq_true.1 (by rfl : ([bF, bF] : List AV).all plain = true) x (List.mem_of_getElem? hx)) (cvV_sound (T := (PE2 v lv r wd c0 s d S W rv)) (T' := (PX35 (v) (lv) (u) (lu) (r1) (w1_) (b0) (s) (d) (S1) (W1) rv)) hip2 k2 (q1.2 m x0 k1)))) (Nat.le_refl _) (by kernel_rfl) hb_⟩
    (allCons ⟨rfl, fun l hl hb_ => vec_unhide (T1 := (PA35 (u) (lu) (r1) (w1_) (b0) (s + 2) (d + 1) (S1) (W1) rv')) (T2 := (PX35 (v) (lv) (u) (lu) (r1) (w1_) (b0) (s) (d) (S1) (W1) rv)) (C := ⟨20000, 20041, ofPairs rl_unX35, ip_unX35⟩) (i1 := 2) (i2 := 4) hip (c := 2) (n := 7) (L2 := [z0, z0, (iN 32), (oN 10), z2, (iN 3), z1]) (L1' := [z0, z0, (iN 16), (oN 8), z2, (iN 3), z0]) (L2' := [z0, z0, (iN 32), (oN 9), z2, (iN 3), z1]) rfl rfl rfl (fun m hm => (by show rv' _ = rv _; rw [hrv]; exact q2.1 m hm)) (by rw [show ((PA35 (u) (lu) (r1) (w1_) (b0) (s + 2) (d + 1) (S1) (W1) rv')).rv = snap w LL from hrv]; exact fun m x hx => (by
      obtain ⟨x0, k1, k2⟩ := cvL_get (C := ⟨20000, 20041, ofPairs [], ip2_unX35⟩) (l := [z0, z0, (iN 16), (oN 8), z2, (iN 3), z0, z0, z0, z0, (oN 9), z2, (iN 3), z1]) (by kernel_rfl) m x hx
      exact @vrel.plain (PX35 (v) (lv) (u) (lu) (r1) (w1_) (b0) (s) (d) (S1) (W1) rv) _ _ x _ (List.all_eq_true.1 (by rfl : ([z0, z0, (iN 16), (oN 8), z2, (iN 3), z0] : List AV).all plain = true) x (List.mem_of_getElem? hx)) (cvV_sound (T := (PE2 v lv r wd c0 s d S W rv)) (T' := (PX35 (v) (lv) (u) (lu) (r1) (w1_) (b0) (s) (d) (S1) (W1) rv)) hip2 k2 (q2.2 m x0 k1)))) (Nat.le_refl _) (by kernel_rfl) hb_⟩
    (allCons ⟨rfl, fun l hl hb_ => vec_unhide (T1 := (PA35 (u) (lu) (r1) (w1_) (b0) (s + 2) (d + 1) (S1) (W1) rv')) (T2 := (PX35 (v) (lv) (u) (lu) (r1) (w1_) (b0) (s) (d) (S1) (W1) rv)) (C := ⟨20000, 20041, ofPairs rl_unX35, ip_unX35⟩) (i1 := 3) (i2 := 5) hip (c := 3) (n := 1) (L2 := [(pN 20005)]) (L1' := [(pN 20040)]) (L2' := [(pN 20005)]) rfl rfl rfl (fun m hm => (by show rv' _ = rv _; rw [hrv]; exact q3.1 m hm)) (by rw [show ((PA35 (u) (lu) (r1) (w1_) (b0) (s + 2) (d + 1) (S1) (W1) rv')).rv = snap w LL from hrv]; exact fun m x hx => (by
      cases m with
      | succ m => simp at hx
      | zero =>
        cases hx
        have h5 := q3.2 0 (pN 20006) rfl
        simp only [vrel] at h5 ⊢
        obtain ⟨l5, h6, h7⟩ := h5
        rw [mf] at h6; cases h6
        exact ⟨lf, (by show (ofPairs rl_unX35).get 20040 >>= upm μ1 20040 lf = some lf; rfl), h7⟩)) (Nat.le_refl _) (by kernel_rfl) hb_⟩
    (allCons ⟨rfl, fun l hl hb_ => (vpG (T := (PA35 (u) (lu) (r1) (w1_) (b0) (s + 2) (d + 1) (S1) (W1) rv')) (T' := (PX35 (v) (lv) (u) (lu) (r1) (w1_) (b0) (s) (d) (S1) (W1) rv)) (C := ⟨20000, 20041, ofPairs rl_unX35, ip_unX35⟩) (i := 4) (i' := 0) hip 0 (g := noG) (L := [(.int .u64 3), (.int .u64 0), (.int .u64 0)]) (L' := [(.int .u64 3), (.int .u64 0), (.int .u64 0)]) rfl rfl noG_int (Nat.le_refl _) bs.noZero (by kernel_rfl)).2 _ l w1 hb_⟩
    (allCons ⟨rfl, fun l hl hb_ => (vpG (T := (PA35 (u) (lu) (r1) (w1_) (b0) (s + 2) (d + 1) (S1) (W1) rv')) (T' := (PX35 (v) (lv) (u) (lu) (r1) (w1_) (b0) (s) (d) (S1) (W1) rv)) (C := ⟨20000, 20041, ofPairs rl_unX35, ip_unX35⟩) (i := 5) (i' := 1) hip 0 (g := bs.stG) (L := [(oN 11)]) (L' := [(oN 10)]) rfl rfl bs.stG_int (Nat.le_refl _) bs.noZero (by kernel_rfl)).2 _ l w1 hb_⟩
    allNil))))))
  obtain ⟨p1, p2, p3⟩ := HR.weakIn (T := (PA35 (u) (lu) (r1) (w1_) (b0) (s + 2) (d + 1) (S1) (W1) rv')) (T' := (PX35 (v) (lv) (u) (lu) (r1) (w1_) (b0) (s) (d) (S1) (W1) rv)) (C := ⟨20000, 20041, ofPairs rl_unX35, ip_unX35⟩) (rl := rl_unX35) hb (by decide) rfl (by kernel_rfl) hip (vp := [(20001, .vec 0, 2), (20002, .vec 1, 3), (20003, .vec 2, 4), (20004, .vec 3, 5), (20021, .vec 4, 0), (20022, .vec 5, 1)]) hvp (fs := fsR) (bs := bsX35) (by kernel_rfl) (by kernel_rfl) (hx1.trans hext) (f1.ext hext) r2 (glNone rfl rfl)
  exact ⟨_, p1, p2, p3⟩
noncomputable abbrev rl_unC27 : List (Nat × Nat) := [(20000, 20000), (20001, 20001), (20002, 20002), (20003, 20003), (20004, 20004), (20005, 20005), (20023, 20023), (20040, 20040)]
noncomputable abbrev ip_unC27 : IP := [(.oi 0, 11), (.oi 1, 12), (.oi 2, 6), (.oi 3, 7), (.oi 4, 5), (.oi 5, 2), (.oi 6, 3), (.oi 7, 4), (.oi 8, 9)]
noncomputable abbrev ip2_unC27 : IP := [(.oi 5, 0), (.oi 6, 1), (.oi 8, 8)]
theorem unC27 {v lv r wd c0 u lu res r1 w1_ b0 : Int} {s d S W S1 W1 : Nat} {rv rv' : Nat → Value} {E : Nat → Prop} (hM : ∃ l, μ0 14138 = some l) (hb : Base B μ0 20000) (hd : Hid_hideE v lv r wd c0 s d S W rv B w0 μ0 w rv' E)
    (s_ : SR27 (u) (lu) (res) (r1) (w1_) (b0) (s + 2) (d + 1) (S1) (W1) rv' (B.also E) w μ0 a w1) : SC27 (v) (lv) (u) (lu) (res) (r1) (w1_) (b0) (s) (d) (S1) (W1) rv B w0 μ0 a w1 := by
  letI : Tab := (PR27 (u) (lu) (res) (r1) (w1_) (b0) (s + 2) (d + 1) (S1) (W1) rv')
  obtain ⟨μ, lf, LL, hx, r_, mf, hE, hrv, m0, m1, m2, m3⟩ := hd
  obtain ⟨μ1, hx1, f1, r1_⟩ := s_
  have g := fun x b h => @HR.blk (PE2 v lv r wd c0 s d S W rv) B w0 μ (hOf 20040 bsE2) w r_ x b h
  obtain ⟨l0, k0, _, _, b0_⟩ := g 20001 (.vec 0) (by kernel_rfl)
  obtain ⟨l1, k1, _, _, b1_⟩ := g 20002 (.vec 1) (by kernel_rfl)
  obtain ⟨l2, k2, _, _, b2_⟩ := g 20003 (.vec 2) (by kernel_rfl)
  obtain ⟨l3, k3, _, _, b3_⟩ := g 20004 (.vec 3) (by kernel_rfl)
  obtain ⟨lf2, kf, nf, _, bf⟩ := g 20006 kb28 (by kernel_rfl)
  rw [m0] at k0; cases k0
  rw [m1] at k1; cases k1
  rw [m2] at k2; cases k2
  rw [m3] at k3; cases k3
  rw [mf] at kf; cases kf
  have q0 := vec_was (c := 0) (L := [(oN 5), (oN 6), (oN 7), (oN 6), (oN 7)]) (LL := LL) (by decide) rfl rfl b0_
  have q1 := vec_was (c := 1) (L := [bF, bF, bF, bF, bF]) (LL := LL) (by decide) rfl rfl b1_
  have q2 := vec_was (c := 2) (L := [z0, z0, (iN 16), (oN 8), z2, (iN 3), z0, z0, z0, z0, (oN 9), z2, (iN 3), z1]) (LL := LL) (by decide) rfl rfl b2_
  have q3 := vec_was (c := 3) (L := [(pN 20006), (pN 20005)]) (LL := LL) (by decide) rfl rfl b3_
  have hEl : E lf.block := by rw [hE]
  have hext : Ext μ1 (upm μ1 20040 lf) := Ext.upm _ (@HR.fresh (PR27 (u) (lu) (res) (r1) (w1_) (b0) (s + 2) (d + 1) (S1) (W1) rv') _ _ _ _ _ r1_ 20040 (by rw [hOf_next]; exact Nat.le_refl _)).2
  have hbf : @brel (PR27 (u) (lu) (res) (r1) (w1_) (b0) (s + 2) (d + 1) (S1) (W1) rv') (upm μ1 20040 lf) kb28 lf w1 := brel_cells bf ((@HR.below (PR27 (u) (lu) (res) (r1) (w1_) (b0) (s + 2) (d + 1) (S1) (W1) rv') _ _ _ _ _ r1_).block _ (.inr hEl)) (fun i x hi hx_ y hy => by
    have h1 := cellOf_mem (L := [z0, z2, (pN 14138), z0, (iN 16), .nilp]) (by decide) hx_
    simp only [List.mem_cons, List.not_mem_nil, or_false] at h1
    obtain ⟨lm, hlm⟩ := hM
    rcases h1 with rfl | rfl | rfl | rfl | rfl | rfl <;> simp only [vrel] at hy ⊢ <;> first | exact hy | (obtain ⟨l5, h6, h7⟩ := hy; rw [hx _ _ hlm] at h6; cases h6; exact ⟨lm, hext _ _ (hx1 _ _ hlm), h7⟩))
  have r2 := HR.addBack (T1 := (PR27 (u) (lu) (res) (r1) (w1_) (b0) (s + 2) (d + 1) (S1) (W1) rv')) r_ (nf rfl) rfl hEl r1_ (by rw [hOf_next]; decide) (by rw [hOf_next]; exact hbf) (glNone rfl rfl)
  rw [hOf_next] at r2
  have hip : IpOk (PR27 (u) (lu) (res) (r1) (w1_) (b0) (s + 2) (d + 1) (S1) (W1) rv') (PC27 (v) (lv) (u) (lu) (res) (r1) (w1_) (b0) (s) (d) (S1) (W1) rv) ip_unC27 := (ipCons (ipN (.i64, (((s + 2) + 3 : Nat) : Int)) rfl (show (IntKind.i64, ((s + 5 : Nat) : Int)) = (IntKind.i64, (((s + 2) + 3 : Nat) : Int)) from Prod.ext rfl (show (((s + 5 : Nat) : Int) : Int) = (((s + 2) + 3 : Nat) : Int) by omega))) (ipCons (ipN (.i64, (((d + 1) + 1 : Nat) : Int)) rfl (show (IntKind.i64, ((d + 2 : Nat) : Int)) = (IntKind.i64, (((d + 1) + 1 : Nat) : Int)) from Prod.ext rfl (show (((d + 2 : Nat) : Int) : Int) = (((d + 1) + 1 : Nat) : Int) by omega))) (ipCons (ipN (.i64, w1_) rfl rfl) (ipCons (ipN (.i64, b0) rfl rfl) (ipCons (ipN (.i64, r1) rfl rfl) (ipCons (ipN (.i64, u) rfl rfl) (ipCons (ipN (.i64, lu) rfl rfl) (ipCons (ipN (.i64, res) rfl rfl) (ipCons (ipN (.i64, (((s + 2) : Nat) : Int)) rfl (show (IntKind.i64, ((s + 2 : Nat) : Int)) = (IntKind.i64, (((s + 2) : Nat) : Int)) from Prod.ext rfl (show (((s + 2 : Nat) : Int) : Int) = (((s + 2) : Nat) : Int) by omega))) ipNil)))))))))
  have hip2 : IpOk (PE2 v lv r wd c0 s d S W rv) (PC27 (v) (lv) (u) (lu) (res) (r1) (w1_) (b0) (s) (d) (S1) (W1) rv) ip2_unC27 := (ipCons (ipN (.i64, v) rfl rfl) (ipCons (ipN (.i64, lv) rfl rfl) (ipCons (ipN (.i64, ((s : Nat) : Int)) rfl rfl) ipNil)))
  have hvp : ∀ p ∈ ([(20001, .vec 0, 0), (20002, .vec 1, 1), (20003, .vec 2, 2), (20004, .vec 3, 3)] : VP), own p.2.1 = true ∧ ∀ l, (upm μ1 20040 lf) p.1 = some l → @brel (PR27 (u) (lu) (res) (r1) (w1_) (b0) (s + 2) (d + 1) (S1) (W1) rv') (upm μ1 20040 lf) p.2.1 l w1 → @brel (PC27 (v) (lv) (u) (lu) (res) (r1) (w1_) (b0) (s) (d) (S1) (W1) rv) (ren 20000 (ofPairs rl_unC27) (upm μ1 20040 lf)) (.vec p.2.2) l w1 :=
    (allCons ⟨rfl, fun l hl hb_ => vec_unhide (T1 := (PR27 (u) (lu) (res) (r1) (w1_) (b0) (s + 2) (d + 1) (S1) (W1) rv')) (T2 := (PC27 (v) (lv) (u) (lu) (res) (r1) (w1_) (b0) (s) (d) (S1) (W1) rv)) (C := ⟨20000, 20041, ofPairs rl_unC27, ip_unC27⟩) (i1 := 0) (i2 := 0) hip (c := 0) (n := 2) (L2 := [(oN 5), (oN 6), (oN 7)]) (L1' := [(oN 0), (oN 1)]) (L2' := [(oN 2), (oN 3), (oN 4)]) rfl rfl rfl (fun m hm => (by show rv' _ = rv _; rw [hrv]; exact q0.1 m hm)) (by rw [show ((PR27 (u) (lu) (res) (r1) (w1_) (b0) (s + 2) (d + 1) (S1) (W1) rv')).rv = snap w LL from hrv]; exact fun m x hx => (by
      obtain ⟨x0, k1, k2⟩ := cvL_get (C := ⟨20000, 20041, ofPairs [], ip2_unC27⟩) (l := [(oN 5), (oN 6), (oN 7), (oN 6), (oN 7)]) (by kernel_rfl) m x hx
      exact @vrel.plain (PC27 (v) (lv) (u) (lu) (res) (r1) (w1_) (b0) (s) (d) (S1) (W1) rv) _ _ x _ (List.all_eq_true.1 (by rfl : ([(oN 0), (oN 1)] : List AV).all plain = true) x (List.mem_of_getElem? hx)) (cvV_sound (T := (PE2 v lv r wd c0 s d S W rv)) (T' := (PC27 (v) (lv) (u) (lu) (res) (r1) (w1_) (b0) (s) (d) (S1) (W1) rv)) hip2 k2 (q0.2 m x0 k1)))) (Nat.le_refl _) (by kernel_rfl) hb_⟩
    (allCons ⟨rfl, fun l hl hb_ => vec_unhide (T1 := (PR27 (u) (lu) (res) (r1) (w1_) (b0) (s + 2) (d + 1) (S1) (W1) rv')) (T2 := (PC27 (v) (lv) (u) (lu) (res) (r1) (w1_) (b0) (s) (d) (S1) (W1) rv)) (C := ⟨20000, 20041, ofPairs rl_unC27, ip_unC27⟩) (i1 := 1) (i2 := 1) hip (c := 1) (n := 2) (L2 := [bF, bF, bF]) (L1' := [bF, bF]) (L2' := [bF, bF, bF]) rfl rfl rfl (fun m hm => (by show rv' _ = rv _; rw [hrv]; exact q1.1 m hm)) (by rw [show ((PR27 (u) (lu) (res) (r1) (w1_) (b0) (s + 2) (d + 1) (S1) (W1) rv')).rv = snap w LL from hrv]; exact fun m x hx => (by
      obtain ⟨x0, k1, k2⟩ := cvL_get (C := ⟨20000, 20041, ofPairs [], ip2_unC27⟩) (l := [bF, bF, bF, bF, bF]) (by kernel_rfl) m x hx
      exact @vrel.plain (PC27 (v) (lv) (u) (lu) (res) (r1) (w1_) (b0) (s) (d) (S1) (W1) rv) _ _ x _ (List.all_eq_true.1 (by rfl : ([bF, bF] : List AV).all plain = true) x (List.mem_of_getElem? hx)) (cvV_sound (T := (PE2 v lv r wd c0 s d S W rv)) (T' := (PC27 (v) (lv) (u) (lu) (res) (r1) (w1_) (b0) (s) (d) (S1) (W1) rv)) hip2 k2 (q1.2 m x0 k1)))) (Nat.le_refl _) (by kernel_rfl) hb_⟩
    (allCons ⟨rfl, fun l hl hb_ => vec_unhide (T1 := (PR27 (u) (lu) (res) (r1) (w1_) (b0) (s + 2) (d + 1) (S1) (W1) rv')) (T2 := (PC27 (v) (lv) (u) (lu) (res) (r1) (w1_) (b0) (s) (d) (S1) (W1) rv)) (C := ⟨20000, 20041, ofPairs rl_unC27, ip_unC27⟩) (i1 := 2) (i2 := 2) hip (c := 2) (n := 7) (L2 := [z0, z0, (iN 26), (oN 8), z2, (iN 3), z1]) (L1' := [z0, z0, (iN 16), (oN 8), z2, (iN 3), z0]) (L2' := [z0, z0, (iN 26), (oN 9), z2, (iN 3), z1]) rfl rfl rfl (fun m hm => (by show rv' _ = rv _; rw [hrv]; exact q2.1 m hm)) (by rw [show ((PR27 (u) (lu) (res) (r1) (w1_) (b0) (s + 2) (d + 1) (S1) (W1) rv')).rv = snap w LL from hrv]; exact fun m x hx => (by
      obtain ⟨x0, k1, k2⟩ := cvL_get (C := ⟨20000, 20041, ofPairs [], ip2_unC27⟩) (l := [z0, z0, (iN 16), (oN 8), z2, (iN 3), z0, z0, z0, z0, (oN 9), z2, (iN 3), z1]) (by kernel_rfl) m x hx
      exact @vrel.plain (PC27 (v) (lv) (u) (lu) (res) (r1) (w1_) (b0) (s) (d) (S1) (W1) rv) _ _ x _ (List.all_eq_true.1 (by rfl : ([z0, z0, (iN 16), (oN 8), z2, (iN 3), z0] : List AV).all plain = true) x (List.mem_of_getElem? hx)) (cvV_sound (T := (PE2 v lv r wd c0 s d S W rv)) (T' := (PC27 (v) (lv) (u) (lu) (res) (r1) (w1_) (b0) (s) (d) (S1) (W1) rv)) hip2 k2 (q2.2 m x0 k1)))) (Nat.le_refl _) (by kernel_rfl) hb_⟩
    (allCons ⟨rfl, fun l hl hb_ => vec_unhide (T1 := (PR27 (u) (lu) (res) (r1) (w1_) (b0) (s + 2) (d + 1) (S1) (W1) rv')) (T2 := (PC27 (v) (lv) (u) (lu) (res) (r1) (w1_) (b0) (s) (d) (S1) (W1) rv)) (C := ⟨20000, 20041, ofPairs rl_unC27, ip_unC27⟩) (i1 := 3) (i2 := 3) hip (c := 3) (n := 1) (L2 := [(pN 20005)]) (L1' := [(pN 20040)]) (L2' := [(pN 20005)]) rfl rfl rfl (fun m hm => (by show rv' _ = rv _; rw [hrv]; exact q3.1 m hm)) (by rw [show ((PR27 (u) (lu) (res) (r1) (w1_) (b0) (s + 2) (d + 1) (S1) (W1) rv')).rv = snap w LL from hrv]; exact fun m x hx => (by
      cases m with
      | succ m => simp at hx
      | zero =>
        cases hx
        have h5 := q3.2 0 (pN 20006) rfl
        simp only [vrel] at h5 ⊢
        obtain ⟨l5, h6, h7⟩ := h5
        rw [mf] at h6; cases h6
        exact ⟨lf, (by show (ofPairs rl_unC27).get 20040 >>= upm μ1 20040 lf = some lf; rfl), h7⟩)) (Nat.le_refl _) (by kernel_rfl) hb_⟩
    allNil))))
  obtain ⟨p1, p2, p3⟩ := HR.weakIn (T := (PR27 (u) (lu) (res) (r1) (w1_) (b0) (s + 2) (d + 1) (S1) (W1) rv')) (T' := (PC27 (v) (lv) (u) (lu) (res) (r1) (w1_) (b0) (s) (d) (S1) (W1) rv)) (C := ⟨20000, 20041, ofPairs rl_unC27, ip_unC27⟩) (rl := rl_unC27) hb (by decide) rfl (by kernel_rfl) hip (vp := [(20001, .vec 0, 0), (20002, .vec 1, 1), (20003, .vec 2, 2), (20004, .vec 3, 3)]) hvp (fs := fsR) (bs := bsC27) (by kernel_rfl) (by kernel_rfl) (hx1.trans hext) (f1.ext hext) r2 (glNone rfl rfl)
  exact ⟨_, p1, p2, p3⟩
noncomputable abbrev rl_unC19 : List (Nat × Nat) := [(20000, 20000), (20001, 20001), (20002, 20002), (20003, 20003), (20004, 20004), (20005, 20005), (20023, 20023), (20040, 20040)]
noncomputable abbrev ip_unC19 : IP := [(.oi 0, 11), (.oi 1, 12), (.oi 2, 6), (.oi 3, 7), (.oi 4, 5), (.oi 5, 2), (.oi 6, 3), (.oi 7, 4), (.oi 8, 9)]
noncomputable abbrev ip2_unC19 : IP := [(.oi 5, 0), (.oi 6, 1), (.oi 8, 8)]
theorem unC19 {v lv r wd c0 u lu res r1 w1_ b0 : Int} {s d S W S1 W1 : Nat} {rv rv' : Nat → Value} {E : Nat → Prop} (hM : ∃ l, μ0 14138 = some l) (hb : Base B μ0 20000) (hd : Hid_hideE v lv r wd c0 s d S W rv B w0 μ0 w rv' E)
    (s_ : SR19 (u) (lu) (res) (r1) (w1_) (b0) (s + 2) (d + 1) (S1) (W1) rv' (B.also E) w μ0 a w1) : SC19 (v) (lv) (u) (lu) (res) (r1) (w1_) (b0) (s) (d) (S1) (W1) rv B w0 μ0 a w1 := by
  letI : Tab := (PR19 (u) (lu) (res) (r1) (w1_) (b0) (s + 2) (d + 1) (S1) (W1) rv')
  obtain ⟨μ, lf, LL, hx, r_, mf, hE, hrv, m0, m1, m2, m3⟩ := hd
  obtain ⟨μ1, hx1, f1, r1_⟩ := s_
  have g := fun x b h => @HR.blk (PE2 v lv r wd c0 s d S W rv) B w0 μ (hOf 20040 bsE2) w r_ x b h
  obtain ⟨l0, k0, _, _, b0_⟩ := g 20001 (.vec 0) (by kernel_rfl)
  obtain ⟨l1, k1, _, _, b1_⟩ := g 20002 (.vec 1) (by kernel_rfl)
  obtain ⟨l2, k2, _, _, b2_⟩ := g 20003 (.vec 2) (by kernel_rfl)
  obtain ⟨l3, k3, _, _, b3_⟩ := g 20004 (.vec 3) (by kernel_rfl)
  obtain ⟨lf2, kf, nf, _, bf⟩ := g 20006 kb28 (by kernel_rfl)
  rw [m0] at k0; cases k0
  rw [m1] at k1; cases k1
  rw [m2] at k2; cases k2
  rw [m3] at k3; cases k3
  rw [mf] at kf; cases kf
  have q0 := vec_was (c := 0) (L := [(oN 5), (oN 6), (oN 7), (oN 6), (oN 7)]) (LL := LL) (by decide) rfl rfl b0_
  have q1 := vec_was (c := 1) (L := [bF, bF, bF, bF, bF]) (LL := LL) (by decide) rfl rfl b1_
  have q2 := vec_was (c := 2) (L := [z0, z0, (iN 16), (oN 8), z2, (iN 3), z0, z0, z0, z0, (oN 9), z2, (iN 3), z1]) (LL := LL) (by decide) rfl rfl b2_
  have q3 := vec_was (c := 3) (L := [(pN 20006), (pN 20005)]) (LL := LL) (by decide) rfl rfl b3_
  have hEl : E lf.block := by rw [hE]
  have hext : Ext μ1 (upm μ1 20040 lf) := Ext.upm _ (@HR.fresh (PR19 (u) (lu) (res) (r1) (w1_) (b0) (s + 2) (d + 1) (S1) (W1) rv') _ _ _ _ _ r1_ 20040 (by rw [hOf_next]; exact Nat.le_refl _)).2
  have hbf : @brel (PR19 (u) (lu) (res) (r1) (w1_) (b0) (s + 2) (d + 1) (S1) (W1) rv') (upm μ1 20040 lf) kb28 lf w1 := brel_cells bf ((@HR.below (PR19 (u) (lu) (res) (r1) (w1_) (b0) (s + 2) (d + 1) (S1) (W1) rv') _ _ _ _ _ r1_).block _ (.inr hEl)) (fun i x hi hx_ y hy => by
    have h1 := cellOf_mem (L := [z0, z2, (pN 14138), z0, (iN 16), .nilp]) (by decide) hx_
    simp only [List.mem_cons, List.not_mem_nil, or_false] at h1
    obtain ⟨lm, hlm⟩ := hM
    rcases h1 with rfl | rfl | rfl | rfl | rfl | rfl <;> simp only [vrel] at hy ⊢ <;> first | exact hy | (obtain ⟨l5, h6, h7⟩ := hy; rw [hx _ _ hlm] at h6; cases h6; exact ⟨lm, hext _ _ (hx1 _ _ hlm), h7⟩))
  have r2 := HR.addBack (T1 := (PR19 (u) (lu) (res) (r1) (w1_) (b0) (s + 2) (d + 1) (S1) (W1) rv')) r_ (nf rfl) rfl hEl r1_ (by rw [hOf_next]; decide) (by rw [hOf_next]; exact hbf) (glNone rfl rfl)
  rw [hOf_next] at r2
  have hip : IpOk (PR19 (u) (lu) (res) (r1) (w1_) (b0) (s + 2) (d + 1) (S1) (W1) rv') (PC19 (v) (lv) (u) (lu) (res) (r1) (w1_) (b0) (s) (d) (S1) (W1) rv) ip_unC19 := (ipCons (ipN (.i64, (((s + 2) + 3 : Nat) : Int)) rfl (show (IntKind.i64, ((s + 5 : Nat) : Int)) = (IntKind.i64, (((s + 2) + 3 : Nat) : Int)) from Prod.ext rfl (show (((s + 5 : Nat) : Int) : Int) = (((s + 2) + 3 : Nat) : Int) by omega))) (ipCons (ipN (.i64, (((d + 1) + 1 : Nat) : Int)) rfl (show (IntKind.i64, ((d + 2 : Nat) : Int)) = (IntKind.i64, (((d + 1) + 1 : Nat) : Int)) from Prod.ext rfl (show (((d + 2 : Nat) : Int) : Int) = (((d + 1) + 1 : Nat) : Int) by omega))) (ipCons (ipN (.i64, w1_) rfl rfl) (ipCons (ipN (.i64, b0) rfl rfl) (ipCons (ipN (.i64, r1) rfl rfl) (ipCons (ipN (.i64, u) rfl rfl) (ipCons (ipN (.i64, lu) rfl rfl) (ipCons (ipN (.i64, res) rfl rfl) (ipCons (ipN (.i64, (((s + 2) : Nat) : Int)) rfl (show (IntKind.i64, ((s + 2 : Nat) : Int)) = (IntKind.i64, (((s + 2) : Nat) : Int)) from Prod.ext rfl (show (((s + 2 : Nat) : Int) : Int) = (((s + 2) : Nat) : Int) by omega))) ipNil)))))))))
  have hip2 : IpOk (PE2 v lv r wd c0 s d S W rv) (PC19 (v) (lv) (u) (lu) (res) (r1) (w1_) (b0) (s) (d) (S1) (W1) rv) ip2_unC19 := (ipCons (ipN (.i64, v) rfl rfl) (ipCons (ipN (.i64, lv) rfl rfl) (ipCons (ipN (.i64, ((s : Nat) : Int)) rfl rfl) ipNil)))
  have hvp : ∀ p ∈ ([(20001, .vec 0, 0), (20002, .vec 1, 1), (20003, .vec 2, 2), (20004, .vec 3, 3)] : VP), own p.2.1 = true ∧ ∀ l, (upm μ1 20040 lf) p.1 = some l → @brel (PR19 (u) (lu) (res) (r1) (w1_) (b0) (s + 2) (d + 1) (S1) (W1) rv') (upm μ1 20040 lf) p.2.1 l w1 → @brel (PC19 (v) (lv) (u) (lu) (res) (r1) (w1_) (b0) (s) (d) (S1) (W1) rv) (ren 20000 (ofPairs rl_unC19) (upm μ1 20040 lf)) (.vec p.2.2) l w1 :=
    (allCons ⟨rfl, fun l hl hb_ => vec_unhide (T1 := (PR19 (u) (lu) (res) (r1) (w1_) (b0) (s + 2) (d + 1) (S1) (W1) rv')) (T2 := (PC19 (v) (lv) (u) (lu) (res) (r1) (w1_) (b0) (s) (d) (S1) (W1) rv)) (C := ⟨20000, 20041, ofPairs rl_unC19, ip_unC19⟩) (i1 := 0) (i2 := 0) hip (c := 0) (n := 2) (L2 := [(oN 5), (oN 6), (oN 7)]) (L1' := [(oN 0), (oN 1)]) (L2' := [(oN 2), (oN 3), (oN 4)]) rfl rfl rfl (fun m hm => (by show rv' _ = rv _; rw [hrv]; exact q0.1 m hm)) (by rw [show ((PR19 (u) (lu) (res) (r1) (w1_) (b0) (s + 2) (d + 1) (S1) (W1) rv')).rv = snap w LL from hrv]; exact fun m x hx => (by
      obtain ⟨x0, k1, k2⟩ := cvL_get (C := ⟨20000, 20041, ofPairs [], ip2_unC19⟩) (l := [(oN 5), (oN 6), (oN 7), (oN 6), (oN 7)]) (by kernel_rfl) m x hx
      exact @vrel.plain (PC19 (v) (lv) (u) (lu) (res) (r1) (w1_) (b0) (s) (d) (S1) (W1) rv) _ _ x _ (List.all_eq_true.1 (by rfl : ([(oN 0), (oN 1)] : List AV).all plain = true) x (List.mem_of_getElem? hx)) (cvV_sound (T := (PE2 v lv r wd c0 s d S W rv)) (T' := (PC19 (v) (lv) (u) (lu) (res) (r1) (w1_) (b0) (s) (d) (S1) (W1) rv)) hip2 k2 (q0.2 m x0 k1)))) (Nat.le_refl _) (by kernel_rfl) hb_⟩
    (allCons ⟨rfl, fun l hl hb_ => vec_unhide (T1 := (PR19 (u) (lu) (res) (r1) (w1_) (b0) (s + 2) (d + 1) (S1) (W1) rv')) (T2 := (PC19 (v) (lv) (u) (lu) (res) (r1) (w1_) (b0) (s) (d) (S1) (W1) rv)) (C := ⟨20000, 20041, ofPairs rl_unC19, ip_unC19⟩) (i1 := 1) (i2 := 1) hip (c := 1) (n := 2) (L2 := [bF, bF, bF]) (L1' := [bF, bF]) (L2' := [bF, bF, bF]) rfl rfl rfl (fun m hm => (by show rv' _ = rv _; rw [hrv]; exact q1.1 m hm)) (by rw [show ((PR19 (u) (lu) (res) (r1) (w1_) (b0) (s + 2) (d + 1) (S1) (W1) rv')).rv = snap w LL from hrv]; exact fun m x hx => (by
      obtain ⟨x0, k1, k2⟩ := cvL_get (C := ⟨20000, 20041, ofPairs [], ip2_unC19⟩) (l := [bF, bF, bF, bF, bF]) (by kernel_rfl) m x hx
      exact @vrel.plain (PC19 (v) (lv) (u) (lu) (res) (r1) (w1_) (b0) (s) (d) (S1) (W1) rv) _ _ x _ (List.all_eq_true.1 (by rfl : ([bF, bF] : List AV).all plain = true) x (List.mem_of_getElem? hx)) (cvV_sound (T := (PE2 v lv r wd c0 s d S W rv)) (T' := (PC19 (v) (lv) (u) (lu) (res) (r1) (w1_) (b0) (s) (d) (S1) (W1) rv)) hip2 k2 (q1.2 m x0 k1)))) (Nat.le_refl _) (by kernel_rfl) hb_⟩
    (allCons ⟨rfl, fun l hl hb_ => vec_unhide (T1 := (PR19 (u) (lu) (res) (r1) (w1_) (b0) (s + 2) (d + 1) (S1) (W1) rv')) (T2 := (PC19 (v) (lv) (u) (lu) (res) (r1) (w1_) (b0) (s) (d) (S1) (W1) rv)) (C := ⟨20000, 20041, ofPairs rl_unC19, ip_unC19⟩) (i1 := 2) (i2 := 2) hip (c := 2) (n := 7) (L2 := [z0, z0, (iN 16), (oN 8), z2, (iN 3), z1]) (L1' := [z0, z0, (iN 16), (oN 8), z2, (iN 3), z0]) (L2' := [z0, z0, (iN 16), (oN 9), z2, (iN 3), z1]) rfl rfl rfl (fun m hm => (by show rv' _ = rv _; rw [hrv]; exact q2.1 m hm)) (by rw [show ((PR19 (u) (lu) (res) (r1) (w1_) (b0) (s + 2) (d + 1) (S1) (W1) rv')).rv = snap w LL from hrv]; exact fun m x hx => (by
      obtain ⟨x0, k1, k2⟩ := cvL_get (C := ⟨20000, 20041, ofPairs [], ip2_unC19⟩) (l := [z0, z0, (iN 16), (oN 8), z2, (iN 3), z0, z0, z0, z0, (oN 9), z2, (iN 3), z1]) (by kernel_rfl) m x hx
      exact @vrel.plain (PC19 (v) (lv) (u) (lu) (res) (r1) (w1_) (b0) (s) (d) (S1) (W1) rv) _ _ x _ (List.all_eq_true.1 (by rfl : ([z0, z0, (iN 16), (oN 8), z2, (iN 3), z0] : List AV).all plain = true) x (List.mem_of_getElem? hx)) (cvV_sound (T := (PE2 v lv r wd c0 s d S W rv)) (T' := (PC19 (v) (lv) (u) (lu) (res) (r1) (w1_) (b0) (s) (d) (S1) (W1) rv)) hip2 k2 (q2.2 m x0 k1)))) (Nat.le_refl _) (by kernel_rfl) hb_⟩
    (allCons ⟨rfl, fun l hl hb_ => vec_unhide (T1 := (PR19 (u) (lu) (res) (r1) (w1_) (b0) (s + 2) (d + 1) (S1) (W1) rv')) (T2 := (PC19 (v) (lv) (u) (lu) (res) (r1) (w1_) (b0) (s) (d) (S1) (W1) rv)) (C := ⟨20000, 20041, ofPairs rl_unC19, ip_unC19⟩) (i1 := 3) (i2 := 3) hip (c := 3) (n := 1) (L2 := [(pN 20005)]) (L1' := [(pN 20040)]) (L2' := [(pN 20005)]) rfl rfl rfl (fun m hm => (by show rv' _ = rv _; rw [hrv]; exact q3.1 m hm)) (by rw [show ((PR19 (u) (lu) (res) (r1) (w1_) (b0) (s + 2) (d + 1) (S1) (W1) rv')).rv = snap w LL from hrv]; exact fun m x hx => (by
      cases m with
      | succ m => simp at hx
      | zero =>
        cases hx
        have h5 := q3.2 0 (pN 20006) rfl
        simp only [vrel] at h5 ⊢
        obtain ⟨l5, h6, h7⟩ := h5
        rw [mf] at h6; cases h6
        exact ⟨lf, (by show (ofPairs rl_unC19).get 20040 >>= upm μ1 20040 lf = some lf; rfl), h7⟩)) (Nat.le_refl _) (by kernel_rfl) hb_⟩
    allNil))))
  obtain ⟨p1, p2, p3⟩ := HR.weakIn (T := (PR19 (u) (lu) (res) (r1) (w1_) (b0) (s + 2) (d + 1) (S1) (W1) rv')) (T' := (PC19 (v) (lv) (u) (lu) (res) (r1) (w1_) (b0) (s) (d) (S1) (W1) rv)) (C := ⟨20000, 20041, ofPairs rl_unC19, ip_unC19⟩) (rl := rl_unC19) hb (by decide) rfl (by kernel_rfl) hip (vp := [(20001, .vec 0, 0), (20002, .vec 1, 1), (20003, .vec 2, 2), (20004, .vec 3, 3)]) hvp (fs := fsR) (bs := bsC19) (by kernel_rfl) (by kernel_rfl) (hx1.trans hext) (f1.ext hext) r2 (glNone rfl rfl)
  exact ⟨_, p1, p2, p3⟩
end
end Go.Proofs.YtfkfmjlppllfoaaGreatDoor.un
