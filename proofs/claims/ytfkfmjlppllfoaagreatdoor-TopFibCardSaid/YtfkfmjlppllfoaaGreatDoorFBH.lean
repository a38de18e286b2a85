/-
  Frames that are set aside while a call runs, and come back.
-/
import Derived.Test.YtfkfmjlppllfoaaGreatDoorFBS
import Derived.Test.YtfkfmjlppllfoaaGreatDoorXN3
import Derived.Test.YtfkfmjlppllfoaaGreatDoorProg
import Derived.KernelRfl
set_option linter.unusedSectionVars false
set_option linter.unusedVariables false
set_option maxRecDepth 1000000
set_option maxHeartbeats 0
namespace Go.Proofs.YtfkfmjlppllfoaaGreatDoor.fb
open Go.X Go.RowKit
theorem hOf_next {N : Nat} {bs : BS} : (hOf N bs).next = N := by unfold hOf; rw [fT_eq]
section
variable {B : Kp} {w0 w w1 : World} {μ0 : M} {a : Act}
def Hid_hideA (v : Int) (r : Int) (wd : Int) (c0 : Int) (s : Nat) (d : Nat) (rv : Nat → Value) (B : Kp) (w0 : World) (μ0 : M) (w : World) (rv' : Nat → Value) (E : Nat → Prop) : Prop :=
  ∃ (μ : M) (lf : X.Loc) (LL : Nat → X.Loc), Ext μ0 μ ∧ @HR (PE2a v r wd c0 s d rv) B w0 μ (hOf 20010 bsE2a) w ∧ μ 20006 = some lf ∧ E = (fun j => j = lf.block) ∧ rv' = snap w LL ∧ μ 20001 = some (LL 0) ∧ μ 20002 = some (LL 1) ∧ μ 20003 = some (LL 2) ∧ μ 20004 = some (LL 3)
noncomputable abbrev rl_hideA : List (Nat × Nat) := [(20000, 20000), (20001, 20001), (20002, 20002), (20003, 20003), (20004, 20004), (20005, 20005)]
noncomputable abbrev ip_hideA : IP := [(.oi 0, 6), (.oi 1, 7), (.oi 2, 2), (.oi 3, 3), (.oi 4, 1), (.oi 6, 0), (.oi 8, 4)]
theorem hideA {v : Int} {r : Int} {wd : Int} {c0 : Int} {s : Nat} {d : Nat} {rv : Nat → Value} (hb : Base B μ0 20000) (s_ : SE2a v r wd c0 s d rv B w0 μ0 a w) : ∃ rv' E, Hid_hideA v r wd c0 s d rv B w0 μ0 w rv' E ∧ SE (v - 1) (r + 7) (wd + 8) (c0 + 7) (s + 1) (d + 1) rv' (B.also E) w μ0 a w := by
  obtain ⟨μ, hx, f, r_⟩ := s_
  have g := fun x b h => @HR.blk (PE2a v r wd c0 s d rv) B w0 μ (hOf 20010 bsE2a) w r_ x b h
  obtain ⟨l0, m0, _⟩ := g 20001 (.vec 0) (by kernel_rfl)
  obtain ⟨l1, m1, _⟩ := g 20002 (.vec 1) (by kernel_rfl)
  obtain ⟨l2, m2, _⟩ := g 20003 (.vec 2) (by kernel_rfl)
  obtain ⟨l3, m3, _⟩ := g 20004 (.vec 3) (by kernel_rfl)
  obtain ⟨lf, mf, _⟩ := g 20006 kb16 (by kernel_rfl)
  let LL : Nat → X.Loc := fun c => match c with | 0 => l0 | 1 => l1 | 2 => l2 | _ => l3
  refine ⟨snap w LL, fun j => j = lf.block, ⟨μ, lf, LL, hx, r_, mf, rfl, rfl, m0, m1, m2, m3⟩, ?_⟩
  have hip : IpOk (PE2a v r wd c0 s d rv) (PE (v - 1) (r + 7) (wd + 8) (c0 + 7) (s + 1) (d + 1) (snap w LL)) ip_hideA := (ipCons (ipN (.i64, ((s + 3 : Nat) : Int)) rfl (show (IntKind.i64, (((s + 1) + 2 : Nat) : Int)) = (IntKind.i64, ((s + 3 : Nat) : Int)) from Prod.ext rfl (show ((((s + 1) + 2 : Nat) : Int) : Int) = ((s + 3 : Nat) : Int) by omega))) (ipCons (ipN (.i64, ((d + 2 : Nat) : Int)) rfl (show (IntKind.i64, (((d + 1) + 1 : Nat) : Int)) = (IntKind.i64, ((d + 2 : Nat) : Int)) from Prod.ext rfl (show ((((d + 1) + 1 : Nat) : Int) : Int) = ((d + 2 : Nat) : Int) by omega))) (ipCons (ipN (.i64, wd + 8) rfl (show (IntKind.i64, (wd + 8)) = (IntKind.i64, wd + 8) from Prod.ext rfl (show ((wd + 8) : Int) = wd + 8 by omega))) (ipCons (ipN (.i64, c0 + 7) rfl (show (IntKind.i64, (c0 + 7)) = (IntKind.i64, c0 + 7) from Prod.ext rfl (show ((c0 + 7) : Int) = c0 + 7 by omega))) (ipCons (ipN (.i64, r + 7) rfl (show (IntKind.i64, (r + 7)) = (IntKind.i64, r + 7) from Prod.ext rfl (show ((r + 7) : Int) = r + 7 by omega))) (ipCons (ipN (.i64, v - 1) rfl (show (IntKind.i64, (v - 1)) = (IntKind.i64, v - 1) from Prod.ext rfl (show ((v - 1) : Int) = v - 1 by omega))) (ipCons (ipN (.i64, ((s + 1 : Nat) : Int)) rfl (show (IntKind.i64, (((s + 1) : Nat) : Int)) = (IntKind.i64, ((s + 1 : Nat) : Int)) from Prod.ext rfl (show ((((s + 1) : Nat) : Int) : Int) = ((s + 1 : Nat) : Int) by omega))) ipNil)))))))
  have hvp : ∀ p ∈ ([(20001, .vec 0, 0), (20002, .vec 1, 1), (20003, .vec 2, 2), (20004, .vec 3, 3)] : VP), own p.2.1 = true ∧ ∀ l, μ p.1 = some l → @brel (PE2a v r wd c0 s d rv) μ p.2.1 l w → @brel (PE (v - 1) (r + 7) (wd + 8) (c0 + 7) (s + 1) (d + 1) (snap w LL)) (ren 20000 (ofPairs rl_hideA) μ) (.vec p.2.2) l w :=
    (allCons ⟨rfl, fun l hl hb_ => (by
    rw [m0] at hl; cases hl
    exact vec_hide (T := (PE2a v r wd c0 s d rv)) (T' := (PE (v - 1) (r + 7) (wd + 8) (c0 + 7) (s + 1) (d + 1) (snap w LL))) (C := ⟨20000, 20010, ofPairs rl_hideA, ip_hideA⟩) (i := 0) (i' := 0) hip (c := 0) (L1 := [(.oi 5)]) (L2 := [(.oi 6), (.oi 6)]) (LL := LL) (by decide) rfl rfl (by decide) rfl rfl (Nat.le_refl _) (by kernel_rfl) hb_)⟩
    (allCons ⟨rfl, fun l hl hb_ => (by
    rw [m1] at hl; cases hl
    exact vec_hide (T := (PE2a v r wd c0 s d rv)) (T' := (PE (v - 1) (r + 7) (wd + 8) (c0 + 7) (s + 1) (d + 1) (snap w LL))) (C := ⟨20000, 20010, ofPairs rl_hideA, ip_hideA⟩) (i := 1) (i' := 1) hip (c := 1) (L1 := [(.bool false)]) (L2 := [(.bool false), (.bool false)]) (LL := LL) (by decide) rfl rfl (by decide) rfl rfl (Nat.le_refl _) (by kernel_rfl) hb_)⟩
    (allCons ⟨rfl, fun l hl hb_ => (by
    rw [m2] at hl; cases hl
    exact vec_hide (T := (PE2a v r wd c0 s d rv)) (T' := (PE (v - 1) (r + 7) (wd + 8) (c0 + 7) (s + 1) (d + 1) (snap w LL))) (C := ⟨20000, 20010, ofPairs rl_hideA, ip_hideA⟩) (i := 2) (i' := 2) hip (c := 2) (L1 := [(.int .i64 0), (.int .i64 0), (.int .i64 10), (.oi 7), (.int .i64 1), (.int .i64 3), (.int .i64 0)]) (L2 := [(.int .i64 0), (.int .i64 0), (.int .i64 0), (.oi 8), (.int .i64 1), (.int .i64 3), (.int .i64 1)]) (LL := LL) (by decide) rfl rfl (by decide) rfl rfl (Nat.le_refl _) (by kernel_rfl) hb_)⟩
    (allCons ⟨rfl, fun l hl hb_ => (by
    rw [m3] at hl; cases hl
    exact vec_hide (T := (PE2a v r wd c0 s d rv)) (T' := (PE (v - 1) (r + 7) (wd + 8) (c0 + 7) (s + 1) (d + 1) (snap w LL))) (C := ⟨20000, 20010, ofPairs rl_hideA, ip_hideA⟩) (i := 3) (i' := 3) hip (c := 3) (L1 := [(.ptr 20006 0)]) (L2 := [(.ptr 20005 0)]) (LL := LL) (by decide) rfl rfl (by decide) rfl rfl (Nat.le_refl _) (by kernel_rfl) hb_)⟩
    allNil))))
  obtain ⟨q1, q2, q3⟩ := HR.weakAt (T := (PE2a v r wd c0 s d rv)) (T' := (PE (v - 1) (r + 7) (wd + 8) (c0 + 7) (s + 1) (d + 1) (snap w LL))) (C := ⟨20000, 20010, ofPairs rl_hideA, ip_hideA⟩) (rl := rl_hideA) hb (by decide) rfl (by kernel_rfl) hip (vp := [(20001, .vec 0, 0), (20002, .vec 1, 1), (20003, .vec 2, 2), (20004, .vec 3, 3)]) hvp (fs := fsR) (bs := bsE) (E := fun j => j = lf.block)
    (aside_of (x := 20006) r_ (by kernel_rfl : _ = some kb16) rfl mf (by decide)) (by kernel_rfl) (by kernel_rfl) hx f r_ (fun _ => glNone rfl rfl)
  exact ⟨_, q1, q2, q3⟩
def Hid_hideB (v : Int) (res : Int) (r : Int) (wd : Int) (c0 : Int) (s : Nat) (d : Nat) (rv : Nat → Value) (B : Kp) (w0 : World) (μ0 : M) (w : World) (rv' : Nat → Value) (E : Nat → Prop) : Prop :=
  ∃ (μ : M) (lf : X.Loc) (LL : Nat → X.Loc), Ext μ0 μ ∧ @HR (PE2b v res r wd c0 s d rv) B w0 μ (hOf 20010 bsE2b) w ∧ μ 20006 = some lf ∧ E = (fun j => j = lf.block) ∧ rv' = snap w LL ∧ μ 20001 = some (LL 0) ∧ μ 20002 = some (LL 1) ∧ μ 20003 = some (LL 2) ∧ μ 20004 = some (LL 3)
noncomputable abbrev rl_hideB : List (Nat × Nat) := [(20000, 20000), (20001, 20001), (20002, 20002), (20003, 20003), (20004, 20004), (20005, 20005)]
noncomputable abbrev ip_hideB : IP := [(.oi 0, 6), (.oi 1, 7), (.oi 2, 2), (.oi 3, 3), (.oi 4, 1), (.oi 7, 0), (.oi 9, 4)]
theorem hideB {v : Int} {res : Int} {r : Int} {wd : Int} {c0 : Int} {s : Nat} {d : Nat} {rv : Nat → Value} (hb : Base B μ0 20000) (s_ : SE2b v res r wd c0 s d rv B w0 μ0 a w) : ∃ rv' E, Hid_hideB v res r wd c0 s d rv B w0 μ0 w rv' E ∧ SE (v - 2) (r + 6) (wd) (c0 + 6) (s + 2) (d + 1) rv' (B.also E) w μ0 a w := by
  obtain ⟨μ, hx, f, r_⟩ := s_
  have g := fun x b h => @HR.blk (PE2b v res r wd c0 s d rv) B w0 μ (hOf 20010 bsE2b) w r_ x b h
  obtain ⟨l0, m0, _⟩ := g 20001 (.vec 0) (by kernel_rfl)
  obtain ⟨l1, m1, _⟩ := g 20002 (.vec 1) (by kernel_rfl)
  obtain ⟨l2, m2, _⟩ := g 20003 (.vec 2) (by kernel_rfl)
  obtain ⟨l3, m3, _⟩ := g 20004 (.vec 3) (by kernel_rfl)
  obtain ⟨lf, mf, _⟩ := g 20006 kb17 (by kernel_rfl)
  let LL : Nat → X.Loc := fun c => match c with | 0 => l0 | 1 => l1 | 2 => l2 | _ => l3
  refine ⟨snap w LL, fun j => j = lf.block, ⟨μ, lf, LL, hx, r_, mf, rfl, rfl, m0, m1, m2, m3⟩, ?_⟩
  have hip : IpOk (PE2b v res r wd c0 s d rv) (PE (v - 2) (r + 6) (wd) (c0 + 6) (s + 2) (d + 1) (snap w LL)) ip_hideB := (ipCons (ipN (.i64, ((s + 4 : Nat) : Int)) rfl (show (IntKind.i64, (((s + 2) + 2 : Nat) : Int)) = (IntKind.i64, ((s + 4 : Nat) : Int)) from Prod.ext rfl (show ((((s + 2) + 2 : Nat) : Int) : Int) = ((s + 4 : Nat) : Int) by omega))) (ipCons (ipN (.i64, ((d + 2 : Nat) : Int)) rfl (show (IntKind.i64, (((d + 1) + 1 : Nat) : Int)) = (IntKind.i64, ((d + 2 : Nat) : Int)) from Prod.ext rfl (show ((((d + 1) + 1 : Nat) : Int) : Int) = ((d + 2 : Nat) : Int) by omega))) (ipCons (ipN (.i64, wd) rfl rfl) (ipCons (ipN (.i64, c0 + 6) rfl (show (IntKind.i64, (c0 + 6)) = (IntKind.i64, c0 + 6) from Prod.ext rfl (show ((c0 + 6) : Int) = c0 + 6 by omega))) (ipCons (ipN (.i64, r + 6) rfl (show (IntKind.i64, (r + 6)) = (IntKind.i64, r + 6) from Prod.ext rfl (show ((r + 6) : Int) = r + 6 by omega))) (ipCons (ipN (.i64, v - 2) rfl (show (IntKind.i64, (v - 2)) = (IntKind.i64, v - 2) from Prod.ext rfl (show ((v - 2) : Int) = v - 2 by omega))) (ipCons (ipN (.i64, ((s + 2 : Nat) : Int)) rfl (show (IntKind.i64, (((s + 2) : Nat) : Int)) = (IntKind.i64, ((s + 2 : Nat) : Int)) from Prod.ext rfl (show ((((s + 2) : Nat) : Int) : Int) = ((s + 2 : Nat) : Int) by omega))) ipNil)))))))
  have hvp : ∀ p ∈ ([(20001, .vec 0, 0), (20002, .vec 1, 1), (20003, .vec 2, 2), (20004, .vec 3, 3)] : VP), own p.2.1 = true ∧ ∀ l, μ p.1 = some l → @brel (PE2b v res r wd c0 s d rv) μ p.2.1 l w → @brel (PE (v - 2) (r + 6) (wd) (c0 + 6) (s + 2) (d + 1) (snap w LL)) (ren 20000 (ofPairs rl_hideB) μ) (.vec p.2.2) l w :=
    (allCons ⟨rfl, fun l hl hb_ => (by
    rw [m0] at hl; cases hl
    exact vec_hide (T := (PE2b v res r wd c0 s d rv)) (T' := (PE (v - 2) (r + 6) (wd) (c0 + 6) (s + 2) (d + 1) (snap w LL))) (C := ⟨20000, 20010, ofPairs rl_hideB, ip_hideB⟩) (i := 0) (i' := 0) hip (c := 0) (L1 := [(.oi 5), (.oi 6)]) (L2 := [(.oi 7), (.oi 7)]) (LL := LL) (by decide) rfl rfl (by decide) rfl rfl (Nat.le_refl _) (by kernel_rfl) hb_)⟩
    (allCons ⟨rfl, fun l hl hb_ => (by
    rw [m1] at hl; cases hl
    exact vec_hide (T := (PE2b v res r wd c0 s d rv)) (T' := (PE (v - 2) (r + 6) (wd) (c0 + 6) (s + 2) (d + 1) (snap w LL))) (C := ⟨20000, 20010, ofPairs rl_hideB, ip_hideB⟩) (i := 1) (i' := 1) hip (c := 1) (L1 := [(.bool false), (.bool false)]) (L2 := [(.bool false), (.bool false)]) (LL := LL) (by decide) rfl rfl (by decide) rfl rfl (Nat.le_refl _) (by kernel_rfl) hb_)⟩
    (allCons ⟨rfl, fun l hl hb_ => (by
    rw [m2] at hl; cases hl
    exact vec_hide (T := (PE2b v res r wd c0 s d rv)) (T' := (PE (v - 2) (r + 6) (wd) (c0 + 6) (s + 2) (d + 1) (snap w LL))) (C := ⟨20000, 20010, ofPairs rl_hideB, ip_hideB⟩) (i := 2) (i' := 2) hip (c := 2) (L1 := [(.int .i64 0), (.int .i64 0), (.int .i64 16), (.oi 8), (.int .i64 1), (.int .i64 3), (.int .i64 1)]) (L2 := [(.int .i64 0), (.int .i64 0), (.int .i64 0), (.oi 9), (.int .i64 1), (.int .i64 3), (.int .i64 1)]) (LL := LL) (by decide) rfl rfl (by decide) rfl rfl (Nat.le_refl _) (by kernel_rfl) hb_)⟩
    (allCons ⟨rfl, fun l hl hb_ => (by
    rw [m3] at hl; cases hl
    exact vec_hide (T := (PE2b v res r wd c0 s d rv)) (T' := (PE (v - 2) (r + 6) (wd) (c0 + 6) (s + 2) (d + 1) (snap w LL))) (C := ⟨20000, 20010, ofPairs rl_hideB, ip_hideB⟩) (i := 3) (i' := 3) hip (c := 3) (L1 := [(.ptr 20006 0)]) (L2 := [(.ptr 20005 0)]) (LL := LL) (by decide) rfl rfl (by decide) rfl rfl (Nat.le_refl _) (by kernel_rfl) hb_)⟩
    allNil))))
  obtain ⟨q1, q2, q3⟩ := HR.weakAt (T := (PE2b v res r wd c0 s d rv)) (T' := (PE (v - 2) (r + 6) (wd) (c0 + 6) (s + 2) (d + 1) (snap w LL))) (C := ⟨20000, 20010, ofPairs rl_hideB, ip_hideB⟩) (rl := rl_hideB) hb (by decide) rfl (by kernel_rfl) hip (vp := [(20001, .vec 0, 0), (20002, .vec 1, 1), (20003, .vec 2, 2), (20004, .vec 3, 3)]) hvp (fs := fsR) (bs := bsE) (E := fun j => j = lf.block)
    (aside_of (x := 20006) r_ (by kernel_rfl : _ = some kb17) rfl mf (by decide)) (by kernel_rfl) (by kernel_rfl) hx f r_ (fun _ => glNone rfl rfl)
  exact ⟨_, q1, q2, q3⟩
noncomputable abbrev rl_unA6 : List (Nat × Nat) := [(20000, 20000), (20001, 20001), (20002, 20002), (20003, 20003), (20004, 20004), (20005, 20005), (20010, 20010)]
noncomputable abbrev ip_unA6 : IP := [(.oi 0, 9), (.oi 1, 10), (.oi 2, 4), (.oi 3, 5), (.oi 4, 3), (.oi 5, 1), (.oi 6, 2), (.oi 7, 7)]
noncomputable abbrev ip2_unA6 : IP := [(.oi 5, 0), (.oi 7, 6)]
theorem unA6 {v r wd c0 u res r1 w1_ b0 : Int} {s d : Nat} {rv rv' : Nat → Value} {E : Nat → Prop} (hM : ∃ l, μ0 13892 = some l) (hb : Base B μ0 20000) (hd : Hid_hideA v r wd c0 s d rv B w0 μ0 w rv' E)
    (s_ : SR6 (u) (res) (r1) (w1_) (b0) (s + 1) (d + 1) rv' (B.also E) w μ0 a w1) : SCA6 (v) (u) (res) (r1) (w1_) (b0) (s) (d) rv B w0 μ0 a w1 := by
  letI : Tab := (PR6 (u) (res) (r1) (w1_) (b0) (s + 1) (d + 1) rv')
  obtain ⟨μ, lf, LL, hx, r_, mf, hE, hrv, m0, m1, m2, m3⟩ := hd
  obtain ⟨μ1, hx1, f1, r1_⟩ := s_
  have g := fun x b h => @HR.blk (PE2a v r wd c0 s d rv) B w0 μ (hOf 20010 bsE2a) w r_ x b h
  obtain ⟨l0, k0, _, _, b0_⟩ := g 20001 (.vec 0) (by kernel_rfl)
  obtain ⟨l1, k1, _, _, b1_⟩ := g 20002 (.vec 1) (by kernel_rfl)
  obtain ⟨l2, k2, _, _, b2_⟩ := g 20003 (.vec 2) (by kernel_rfl)
  obtain ⟨l3, k3, _, _, b3_⟩ := g 20004 (.vec 3) (by kernel_rfl)
  obtain ⟨lf2, kf, nf, _, bf⟩ := g 20006 kb16 (by kernel_rfl)
  rw [m0] at k0; cases k0
  rw [m1] at k1; cases k1
  rw [m2] at k2; cases k2
  rw [m3] at k3; cases k3
  rw [mf] at kf; cases kf
  have q0 := vec_was (c := 0) (L := [(.oi 5), (.oi 6), (.oi 6)]) (LL := LL) (by decide) rfl rfl b0_
  have q1 := vec_was (c := 1) (L := [(.bool false), (.bool false), (.bool false)]) (LL := LL) (by decide) rfl rfl b1_
  have q2 := vec_was (c := 2) (L := [(.int .i64 0), (.int .i64 0), (.int .i64 10), (.oi 7), (.int .i64 1), (.int .i64 3), (.int .i64 0), (.int .i64 0), (.int .i64 0), (.int .i64 0), (.oi 8), (.int .i64 1), (.int .i64 3), (.int .i64 1)]) (LL := LL) (by decide) rfl rfl b2_
  have q3 := vec_was (c := 3) (L := [(.ptr 20006 0), (.ptr 20005 0)]) (LL := LL) (by decide) rfl rfl b3_
  have hEl : E lf.block := by rw [hE]
  have hext : Ext μ1 (upm μ1 20010 lf) := Ext.upm _ (@HR.fresh (PR6 (u) (res) (r1) (w1_) (b0) (s + 1) (d + 1) rv') _ _ _ _ _ r1_ 20010 (by rw [hOf_next]; exact Nat.le_refl _)).2
  have hbf : @brel (PR6 (u) (res) (r1) (w1_) (b0) (s + 1) (d + 1) rv') (upm μ1 20010 lf) kb16 lf w1 := brel_cells bf ((@HR.below (PR6 (u) (res) (r1) (w1_) (b0) (s + 1) (d + 1) rv') _ _ _ _ _ r1_).block _ (.inr hEl)) (fun i x hi hx_ y hy => by
    have h1 := cellOf_mem (L := [(.int .i64 0), (.int .i64 2), (.ptr 13892 0), (.int .i64 0), (.int .i64 10), .nilp]) (by decide) hx_
    simp only [List.mem_cons, List.not_mem_nil, or_false] at h1
    obtain ⟨lm, hlm⟩ := hM
    rcases h1 with rfl | rfl | rfl | rfl | rfl | rfl <;> simp only [vrel] at hy ⊢ <;> first | exact hy | (obtain ⟨l5, h6, h7⟩ := hy; rw [hx _ _ hlm] at h6; cases h6; exact ⟨lm, hext _ _ (hx1 _ _ hlm), h7⟩))
  have r2 := HR.addBack (T1 := (PR6 (u) (res) (r1) (w1_) (b0) (s + 1) (d + 1) rv')) r_ (nf rfl) rfl hEl r1_ (by rw [hOf_next]; decide) (by rw [hOf_next]; exact hbf) (glNone rfl rfl)
  rw [hOf_next] at r2
  have hip : IpOk (PR6 (u) (res) (r1) (w1_) (b0) (s + 1) (d + 1) rv') (PCA6 (v) (u) (res) (r1) (w1_) (b0) (s) (d) rv) ip_unA6 := (ipCons (ipN (.i64, (((s + 1) + 2 : Nat) : Int)) rfl (show (IntKind.i64, ((s + 3 : Nat) : Int)) = (IntKind.i64, (((s + 1) + 2 : Nat) : Int)) from Prod.ext rfl (show (((s + 3 : Nat) : Int) : Int) = (((s + 1) + 2 : Nat) : Int) by omega))) (ipCons (ipN (.i64, (((d + 1) + 1 : Nat) : Int)) rfl (show (IntKind.i64, ((d + 2 : Nat) : Int)) = (IntKind.i64, (((d + 1) + 1 : Nat) : Int)) from Prod.ext rfl (show (((d + 2 : Nat) : Int) : Int) = (((d + 1) + 1 : Nat) : Int) by omega))) (ipCons (ipN (.i64, w1_) rfl rfl) (ipCons (ipN (.i64, b0) rfl rfl) (ipCons (ipN (.i64, r1) rfl rfl) (ipCons (ipN (.i64, u) rfl rfl) (ipCons (ipN (.i64, res) rfl rfl) (ipCons (ipN (.i64, (((s + 1) : Nat) : Int)) rfl (show (IntKind.i64, ((s + 1 : Nat) : Int)) = (IntKind.i64, (((s + 1) : Nat) : Int)) from Prod.ext rfl (show (((s + 1 : Nat) : Int) : Int) = (((s + 1) : Nat) : Int) by omega))) ipNil))))))))
  have hip2 : IpOk (PE2a v r wd c0 s d rv) (PCA6 (v) (u) (res) (r1) (w1_) (b0) (s) (d) rv) ip2_unA6 := (ipCons (ipN (.i64, v) rfl rfl) (ipCons (ipN (.i64, ((s : Nat) : Int)) rfl rfl) ipNil))
  have hvp : ∀ p ∈ ([(20001, .vec 0, 0), (20002, .vec 1, 1), (20003, .vec 2, 2), (20004, .vec 3, 3)] : VP), own p.2.1 = true ∧ ∀ l, (upm μ1 20010 lf) p.1 = some l → @brel (PR6 (u) (res) (r1) (w1_) (b0) (s + 1) (d + 1) rv') (upm μ1 20010 lf) p.2.1 l w1 → @brel (PCA6 (v) (u) (res) (r1) (w1_) (b0) (s) (d) rv) (ren 20000 (ofPairs rl_unA6) (upm μ1 20010 lf)) (.vec p.2.2) l w1 :=
    (allCons ⟨rfl, fun l hl hb_ => vec_unhide (T1 := (PR6 (u) (res) (r1) (w1_) (b0) (s + 1) (d + 1) rv')) (T2 := (PCA6 (v) (u) (res) (r1) (w1_) (b0) (s) (d) rv)) (C := ⟨20000, 20011, ofPairs rl_unA6, ip_unA6⟩) (i1 := 0) (i2 := 0) hip (c := 0) (n := 1) (L2 := [(.oi 5), (.oi 6)]) (L1' := [(.oi 0)]) (L2' := [(.oi 1), (.oi 2)]) rfl rfl rfl (fun m hm => (by show rv' _ = rv _; rw [hrv]; exact q0.1 m hm)) (by rw [show ((PR6 (u) (res) (r1) (w1_) (b0) (s + 1) (d + 1) rv')).rv = snap w LL from hrv]; exact fun m x hx => (by
      obtain ⟨x0, k1, k2⟩ := cvL_get (C := ⟨20000, 20011, ofPairs [], ip2_unA6⟩) (l := [(.oi 5), (.oi 6), (.oi 6)]) (by kernel_rfl) m x hx
      exact @vrel.plain (PCA6 (v) (u) (res) (r1) (w1_) (b0) (s) (d) rv) _ _ x _ (List.all_eq_true.1 (by rfl : ([(.oi 0)] : List AV).all plain = true) x (List.mem_of_getElem? hx)) (cvV_sound (T := (PE2a v r wd c0 s d rv)) (T' := (PCA6 (v) (u) (res) (r1) (w1_) (b0) (s) (d) rv)) hip2 k2 (q0.2 m x0 k1)))) (Nat.le_refl _) (by kernel_rfl) hb_⟩
    (allCons ⟨rfl, fun l hl hb_ => vec_unhide (T1 := (PR6 (u) (res) (r1) (w1_) (b0) (s + 1) (d + 1) rv')) (T2 := (PCA6 (v) (u) (res) (r1) (w1_) (b0) (s) (d) rv)) (C := ⟨20000, 20011, ofPairs rl_unA6, ip_unA6⟩) (i1 := 1) (i2 := 1) hip (c := 1) (n := 1) (L2 := [(.bool false), (.bool false)]) (L1' := [(.bool false)]) (L2' := [(.bool false), (.bool false)]) rfl rfl rfl (fun m hm => (by show rv' _ = rv _; rw [hrv]; exact q1.1 m hm)) (by rw [show ((PR6 (u) (res) (r1) (w1_) (b0) (s + 1) (d + 1) rv')).rv = snap w LL from hrv]; exact fun m x hx => (by
      obtain ⟨x0, k1, k2⟩ := cvL_get (C := ⟨20000, 20011, ofPairs [], ip2_unA6⟩) (l := [(.bool false), (.bool false), (.bool false)]) (by kernel_rfl) m x hx
      exact @vrel.plain (PCA6 (v) (u) (res) (r1) (w1_) (b0) (s) (d) rv) _ _ x _ (List.all_eq_true.1 (by rfl : ([(.bool false)] : List AV).all plain = true) x (List.mem_of_getElem? hx)) (cvV_sound (T := (PE2a v r wd c0 s d rv)) (T' := (PCA6 (v) (u) (res) (r1) (w1_) (b0) (s) (d) rv)) hip2 k2 (q1.2 m x0 k1)))) (Nat.le_refl _) (by kernel_rfl) hb_⟩
    (allCons ⟨rfl, fun l hl hb_ => vec_unhide (T1 := (PR6 (u) (res) (r1) (w1_) (b0) (s + 1) (d + 1) rv')) (T2 := (PCA6 (v) (u) (res) (r1) (w1_) (b0) (s) (d) rv)) (C := ⟨20000, 20011, ofPairs rl_unA6, ip_unA6⟩) (i1 := 2) (i2 := 2) hip (c := 2) (n := 7) (L2 := [(.int .i64 0), (.int .i64 0), (.int .i64 5), (.oi 7), (.int .i64 1), (.int .i64 3), (.int .i64 1)]) (L1' := [(.int .i64 0), (.int .i64 0), (.int .i64 10), (.oi 6), (.int .i64 1), (.int .i64 3), (.int .i64 0)]) (L2' := [(.int .i64 0), (.int .i64 0), (.int .i64 5), (.oi 7), (.int .i64 1), (.int .i64 3), (.int .i64 1)]) rfl rfl rfl (fun m hm => (by show rv' _ = rv _; rw [hrv]; exact q2.1 m hm)) (by rw [show ((PR6 (u) (res) (r1) (w1_) (b0) (s + 1) (d + 1) rv')).rv = snap w LL from hrv]; exact fun m x hx => (by
      obtain ⟨x0, k1, k2⟩ := cvL_get (C := ⟨20000, 20011, ofPairs [], ip2_unA6⟩) (l := [(.int .i64 0), (.int .i64 0), (.int .i64 10), (.oi 7), (.int .i64 1), (.int .i64 3), (.int .i64 0), (.int .i64 0), (.int .i64 0), (.int .i64 0), (.oi 8), (.int .i64 1), (.int .i64 3), (.int .i64 1)]) (by kernel_rfl) m x hx
      exact @vrel.plain (PCA6 (v) (u) (res) (r1) (w1_) (b0) (s) (d) rv) _ _ x _ (List.all_eq_true.1 (by rfl : ([(.int .i64 0), (.int .i64 0), (.int .i64 10), (.oi 6), (.int .i64 1), (.int .i64 3), (.int .i64 0)] : List AV).all plain = true) x (List.mem_of_getElem? hx)) (cvV_sound (T := (PE2a v r wd c0 s d rv)) (T' := (PCA6 (v) (u) (res) (r1) (w1_) (b0) (s) (d) rv)) hip2 k2 (q2.2 m x0 k1)))) (Nat.le_refl _) (by kernel_rfl) hb_⟩
    (allCons ⟨rfl, fun l hl hb_ => vec_unhide (T1 := (PR6 (u) (res) (r1) (w1_) (b0) (s + 1) (d + 1) rv')) (T2 := (PCA6 (v) (u) (res) (r1) (w1_) (b0) (s) (d) rv)) (C := ⟨20000, 20011, ofPairs rl_unA6, ip_unA6⟩) (i1 := 3) (i2 := 3) hip (c := 3) (n := 1) (L2 := [(.ptr 20005 0)]) (L1' := [(.ptr 20010 0)]) (L2' := [(.ptr 20005 0)]) rfl rfl rfl (fun m hm => (by show rv' _ = rv _; rw [hrv]; exact q3.1 m hm)) (by rw [show ((PR6 (u) (res) (r1) (w1_) (b0) (s + 1) (d + 1) rv')).rv = snap w LL from hrv]; exact fun m x hx => (by
      cases m with
      | succ m => simp at hx
      | zero =>
        cases hx
        have h5 := q3.2 0 (.ptr 20006 0) rfl
        simp only [vrel] at h5 ⊢
        obtain ⟨l5, h6, h7⟩ := h5
        rw [mf] at h6; cases h6
        exact ⟨lf, (by show (ofPairs rl_unA6).get 20010 >>= upm μ1 20010 lf = some lf; rfl), h7⟩)) (Nat.le_refl _) (by kernel_rfl) hb_⟩
    allNil))))
  obtain ⟨p1, p2, p3⟩ := HR.weakIn (T := (PR6 (u) (res) (r1) (w1_) (b0) (s + 1) (d + 1) rv')) (T' := (PCA6 (v) (u) (res) (r1) (w1_) (b0) (s) (d) rv)) (C := ⟨20000, 20011, ofPairs rl_unA6, ip_unA6⟩) (rl := rl_unA6) hb (by decide) rfl (by kernel_rfl) hip (vp := [(20001, .vec 0, 0), (20002, .vec 1, 1), (20003, .vec 2, 2), (20004, .vec 3, 3)]) hvp (fs := fsR) (bs := bsCA6) (by kernel_rfl) (by kernel_rfl) (hx1.trans hext) (f1.ext hext) r2 (glNone rfl rfl)
  exact ⟨_, p1, p2, p3⟩
noncomputable abbrev rl_unB6 : List (Nat × Nat) := [(20000, 20000), (20001, 20001), (20002, 20002), (20003, 20003), (20004, 20004), (20005, 20005), (20010, 20010)]
noncomputable abbrev ip_unB6 : IP := [(.oi 0, 10), (.oi 1, 11), (.oi 2, 5), (.oi 3, 6), (.oi 4, 4), (.oi 5, 2), (.oi 6, 3), (.oi 7, 8)]
noncomputable abbrev ip2_unB6 : IP := [(.oi 5, 0), (.oi 6, 1), (.oi 8, 7)]
theorem unB6 {v res r wd c0 u rs r1 w1_ b0 : Int} {s d : Nat} {rv rv' : Nat → Value} {E : Nat → Prop} (hM : ∃ l, μ0 13892 = some l) (hb : Base B μ0 20000) (hd : Hid_hideB v res r wd c0 s d rv B w0 μ0 w rv' E)
    (s_ : SR6 (u) (rs) (r1) (w1_) (b0) (s + 2) (d + 1) rv' (B.also E) w μ0 a w1) : SCB6 (v) (res) (u) (rs) (r1) (w1_) (b0) (s) (d) rv B w0 μ0 a w1 := by
  letI : Tab := (PR6 (u) (rs) (r1) (w1_) (b0) (s + 2) (d + 1) rv')
  obtain ⟨μ, lf, LL, hx, r_, mf, hE, hrv, m0, m1, m2, m3⟩ := hd
  obtain ⟨μ1, hx1, f1, r1_⟩ := s_
  have g := fun x b h => @HR.blk (PE2b v res r wd c0 s d rv) B w0 μ (hOf 20010 bsE2b) w r_ x b h
  obtain ⟨l0, k0, _, _, b0_⟩ := g 20001 (.vec 0) (by kernel_rfl)
  obtain ⟨l1, k1, _, _, b1_⟩ := g 20002 (.vec 1) (by kernel_rfl)
  obtain ⟨l2, k2, _, _, b2_⟩ := g 20003 (.vec 2) (by kernel_rfl)
  obtain ⟨l3, k3, _, _, b3_⟩ := g 20004 (.vec 3) (by kernel_rfl)
  obtain ⟨lf2, kf, nf, _, bf⟩ := g 20006 kb17 (by kernel_rfl)
  rw [m0] at k0; cases k0
  rw [m1] at k1; cases k1
  rw [m2] at k2; cases k2
  rw [m3] at k3; cases k3
  rw [mf] at kf; cases kf
  have q0 := vec_was (c := 0) (L := [(.oi 5), (.oi 6), (.oi 7), (.oi 7)]) (LL := LL) (by decide) rfl rfl b0_
  have q1 := vec_was (c := 1) (L := [(.bool false), (.bool false), (.bool false), (.bool false)]) (LL := LL) (by decide) rfl rfl b1_
  have q2 := vec_was (c := 2) (L := [(.int .i64 0), (.int .i64 0), (.int .i64 16), (.oi 8), (.int .i64 1), (.int .i64 3), (.int .i64 1), (.int .i64 0), (.int .i64 0), (.int .i64 0), (.oi 9), (.int .i64 1), (.int .i64 3), (.int .i64 1)]) (LL := LL) (by decide) rfl rfl b2_
  have q3 := vec_was (c := 3) (L := [(.ptr 20006 0), (.ptr 20005 0)]) (LL := LL) (by decide) rfl rfl b3_
  have hEl : E lf.block := by rw [hE]
  have hext : Ext μ1 (upm μ1 20010 lf) := Ext.upm _ (@HR.fresh (PR6 (u) (rs) (r1) (w1_) (b0) (s + 2) (d + 1) rv') _ _ _ _ _ r1_ 20010 (by rw [hOf_next]; exact Nat.le_refl _)).2
  have hbf : @brel (PR6 (u) (rs) (r1) (w1_) (b0) (s + 2) (d + 1) rv') (upm μ1 20010 lf) kb17 lf w1 := brel_cells bf ((@HR.below (PR6 (u) (rs) (r1) (w1_) (b0) (s + 2) (d + 1) rv') _ _ _ _ _ r1_).block _ (.inr hEl)) (fun i x hi hx_ y hy => by
    have h1 := cellOf_mem (L := [(.int .i64 0), (.int .i64 2), (.ptr 13892 0), (.int .i64 0), (.int .i64 16), .nilp]) (by decide) hx_
    simp only [List.mem_cons, List.not_mem_nil, or_false] at h1
    obtain ⟨lm, hlm⟩ := hM
    rcases h1 with rfl | rfl | rfl | rfl | rfl | rfl <;> simp only [vrel] at hy ⊢ <;> first | exact hy | (obtain ⟨l5, h6, h7⟩ := hy; rw [hx _ _ hlm] at h6; cases h6; exact ⟨lm, hext _ _ (hx1 _ _ hlm), h7⟩))
  have r2 := HR.addBack (T1 := (PR6 (u) (rs) (r1) (w1_) (b0) (s + 2) (d + 1) rv')) r_ (nf rfl) rfl hEl r1_ (by rw [hOf_next]; decide) (by rw [hOf_next]; exact hbf) (glNone rfl rfl)
  rw [hOf_next] at r2
  have hip : IpOk (PR6 (u) (rs) (r1) (w1_) (b0) (s + 2) (d + 1) rv') (PCB6 (v) (res) (u) (rs) (r1) (w1_) (b0) (s) (d) rv) ip_unB6 := (ipCons (ipN (.i64, (((s + 2) + 2 : Nat) : Int)) rfl (show (IntKind.i64, ((s + 4 : Nat) : Int)) = (IntKind.i64, (((s + 2) + 2 : Nat) : Int)) from Prod.ext rfl (show (((s + 4 : Nat) : Int) : Int) = (((s + 2) + 2 : Nat) : Int) by omega))) (ipCons (ipN (.i64, (((d + 1) + 1 : Nat) : Int)) rfl (show (IntKind.i64, ((d + 2 : Nat) : Int)) = (IntKind.i64, (((d + 1) + 1 : Nat) : Int)) from Prod.ext rfl (show (((d + 2 : Nat) : Int) : Int) = (((d + 1) + 1 : Nat) : Int) by omega))) (ipCons (ipN (.i64, w1_) rfl rfl) (ipCons (ipN (.i64, b0) rfl rfl) (ipCons (ipN (.i64, r1) rfl rfl) (ipCons (ipN (.i64, u) rfl rfl) (ipCons (ipN (.i64, rs) rfl rfl) (ipCons (ipN (.i64, (((s + 2) : Nat) : Int)) rfl (show (IntKind.i64, ((s + 2 : Nat) : Int)) = (IntKind.i64, (((s + 2) : Nat) : Int)) from Prod.ext rfl (show (((s + 2 : Nat) : Int) : Int) = (((s + 2) : Nat) : Int) by omega))) ipNil))))))))
  have hip2 : IpOk (PE2b v res r wd c0 s d rv) (PCB6 (v) (res) (u) (rs) (r1) (w1_) (b0) (s) (d) rv) ip2_unB6 := (ipCons (ipN (.i64, v) rfl rfl) (ipCons (ipN (.i64, res) rfl rfl) (ipCons (ipN (.i64, ((s : Nat) : Int)) rfl rfl) ipNil)))
  have hvp : ∀ p ∈ ([(20001, .vec 0, 0), (20002, .vec 1, 1), (20003, .vec 2, 2), (20004, .vec 3, 3)] : VP), own p.2.1 = true ∧ ∀ l, (upm μ1 20010 lf) p.1 = some l → @brel (PR6 (u) (rs) (r1) (w1_) (b0) (s + 2) (d + 1) rv') (upm μ1 20010 lf) p.2.1 l w1 → @brel (PCB6 (v) (res) (u) (rs) (r1) (w1_) (b0) (s) (d) rv) (ren 20000 (ofPairs rl_unB6) (upm μ1 20010 lf)) (.vec p.2.2) l w1 :=
    (allCons ⟨rfl, fun l hl hb_ => vec_unhide (T1 := (PR6 (u) (rs) (r1) (w1_) (b0) (s + 2) (d + 1) rv')) (T2 := (PCB6 (v) (res) (u) (rs) (r1) (w1_) (b0) (s) (d) rv)) (C := ⟨20000, 20011, ofPairs rl_unB6, ip_unB6⟩) (i1 := 0) (i2 := 0) hip (c := 0) (n := 2) (L2 := [(.oi 5), (.oi 6)]) (L1' := [(.oi 0), (.oi 1)]) (L2' := [(.oi 2), (.oi 3)]) rfl rfl rfl (fun m hm => (by show rv' _ = rv _; rw [hrv]; exact q0.1 m hm)) (by rw [show ((PR6 (u) (rs) (r1) (w1_) (b0) (s + 2) (d + 1) rv')).rv = snap w LL from hrv]; exact fun m x hx => (by
      obtain ⟨x0, k1, k2⟩ := cvL_get (C := ⟨20000, 20011, ofPairs [], ip2_unB6⟩) (l := [(.oi 5), (.oi 6), (.oi 7), (.oi 7)]) (by kernel_rfl) m x hx
      exact @vrel.plain (PCB6 (v) (res) (u) (rs) (r1) (w1_) (b0) (s) (d) rv) _ _ x _ (List.all_eq_true.1 (by rfl : ([(.oi 0), (.oi 1)] : List AV).all plain = true) x (List.mem_of_getElem? hx)) (cvV_sound (T := (PE2b v res r wd c0 s d rv)) (T' := (PCB6 (v) (res) (u) (rs) (r1) (w1_) (b0) (s) (d) rv)) hip2 k2 (q0.2 m x0 k1)))) (Nat.le_refl _) (by kernel_rfl) hb_⟩
    (allCons ⟨rfl, fun l hl hb_ => vec_unhide (T1 := (PR6 (u) (rs) (r1) (w1_) (b0) (s + 2) (d + 1) rv')) (T2 := (PCB6 (v) (res) (u) (rs) (r1) (w1_) (b0) (s) (d) rv)) (C := ⟨20000, 20011, ofPairs rl_unB6, ip_unB6⟩) (i1 := 1) (i2 := 1) hip (c := 1) (n := 2) (L2 := [(.bool false), (.bool false)]) (L1' := [(.bool false), (.bool false)]) (L2' := [(.bool false), (.bool false)]) rfl rfl rfl (fun m hm => (by show rv' _ = rv _; rw [hrv]; exact q1.1 m hm)) (by rw [show ((PR6 (u) (rs) (r1) (w1_) (b0) (s + 2) (d + 1) rv')).rv = snap w LL from hrv]; exact fun m x hx => (by
      obtain ⟨x0, k1, k2⟩ := cvL_get (C := ⟨20000, 20011, ofPairs [], ip2_unB6⟩) (l := [(.bool false), (.bool false), (.bool false), (.bool false)]) (by kernel_rfl) m x hx
      exact @vrel.plain (PCB6 (v) (res) (u) (rs) (r1) (w1_) (b0) (s) (d) rv) _ _ x _ (List.all_eq_true.1 (by rfl : ([(.bool false), (.bool false)] : List AV).all plain = true) x (List.mem_of_getElem? hx)) (cvV_sound (T := (PE2b v res r wd c0 s d rv)) (T' := (PCB6 (v) (res) (u) (rs) (r1) (w1_) (b0) (s) (d) rv)) hip2 k2 (q1.2 m x0 k1)))) (Nat.le_refl _) (by kernel_rfl) hb_⟩
    (allCons ⟨rfl, fun l hl hb_ => vec_unhide (T1 := (PR6 (u) (rs) (r1) (w1_) (b0) (s + 2) (d + 1) rv')) (T2 := (PCB6 (v) (res) (u) (rs) (r1) (w1_) (b0) (s) (d) rv)) (C := ⟨20000, 20011, ofPairs rl_unB6, ip_unB6⟩) (i1 := 2) (i2 := 2) hip (c := 2) (n := 7) (L2 := [(.int .i64 0), (.int .i64 0), (.int .i64 5), (.oi 7), (.int .i64 1), (.int .i64 3), (.int .i64 1)]) (L1' := [(.int .i64 0), (.int .i64 0), (.int .i64 16), (.oi 7), (.int .i64 1), (.int .i64 3), (.int .i64 1)]) (L2' := [(.int .i64 0), (.int .i64 0), (.int .i64 5), (.oi 8), (.int .i64 1), (.int .i64 3), (.int .i64 1)]) rfl rfl rfl (fun m hm => (by show rv' _ = rv _; rw [hrv]; exact q2.1 m hm)) (by rw [show ((PR6 (u) (rs) (r1) (w1_) (b0) (s + 2) (d + 1) rv')).rv = snap w LL from hrv]; exact fun m x hx => (by
      obtain ⟨x0, k1, k2⟩ := cvL_get (C := ⟨20000, 20011, ofPairs [], ip2_unB6⟩) (l := [(.int .i64 0), (.int .i64 0), (.int .i64 16), (.oi 8), (.int .i64 1), (.int .i64 3), (.int .i64 1), (.int .i64 0), (.int .i64 0), (.int .i64 0), (.oi 9), (.int .i64 1), (.int .i64 3), (.int .i64 1)]) (by kernel_rfl) m x hx
      exact @vrel.plain (PCB6 (v) (res) (u) (rs) (r1) (w1_) (b0) (s) (d) rv) _ _ x _ (List.all_eq_true.1 (by rfl : ([(.int .i64 0), (.int .i64 0), (.int .i64 16), (.oi 7), (.int .i64 1), (.int .i64 3), (.int .i64 1)] : List AV).all plain = true) x (List.mem_of_getElem? hx)) (cvV_sound (T := (PE2b v res r wd c0 s d rv)) (T' := (PCB6 (v) (res) (u) (rs) (r1) (w1_) (b0) (s) (d) rv)) hip2 k2 (q2.2 m x0 k1)))) (Nat.le_refl _) (by kernel_rfl) hb_⟩
    (allCons ⟨rfl, fun l hl hb_ => vec_unhide (T1 := (PR6 (u) (rs) (r1) (w1_) (b0) (s + 2) (d + 1) rv')) (T2 := (PCB6 (v) (res) (u) (rs) (r1) (w1_) (b0) (s) (d) rv)) (C := ⟨20000, 20011, ofPairs rl_unB6, ip_unB6⟩) (i1 := 3) (i2 := 3) hip (c := 3) (n := 1) (L2 := [(.ptr 20005 0)]) (L1' := [(.ptr 20010 0)]) (L2' := [(.ptr 20005 0)]) rfl rfl rfl (fun m hm => (by show rv' _ = rv _; rw [hrv]; exact q3.1 m hm)) (by rw [show ((PR6 (u) (rs) (r1) (w1_) (b0) (s + 2) (d + 1) rv')).rv = snap w LL from hrv]; exact fun m x hx => (by
      cases m with
      | succ m => simp at hx
      | zero =>
        cases hx
        have h5 := q3.2 0 (.ptr 20006 0) rfl
        simp only [vrel] at h5 ⊢
        obtain ⟨l5, h6, h7⟩ := h5
        rw [mf] at h6; cases h6
        exact ⟨lf, (by show (ofPairs rl_unB6).get 20010 >>= upm μ1 20010 lf = some lf; rfl), h7⟩)) (Nat.le_refl _) (by kernel_rfl) hb_⟩
    allNil))))
  obtain ⟨p1, p2, p3⟩ := HR.weakIn (T := (PR6 (u) (rs) (r1) (w1_) (b0) (s + 2) (d + 1) rv')) (T' := (PCB6 (v) (res) (u) (rs) (r1) (w1_) (b0) (s) (d) rv)) (C := ⟨20000, 20011, ofPairs rl_unB6, ip_unB6⟩) (rl := rl_unB6) hb (by decide) rfl (by kernel_rfl) hip (vp := [(20001, .vec 0, 0), (20002, .vec 1, 1), (20003, .vec 2, 2), (20004, .vec 3, 3)]) hvp (fs := fsR) (bs := bsCB6) (by kernel_rfl) (by kernel_rfl) (hx1.trans hext) (f1.ext hext) r2 (glNone rfl rfl)
  exact ⟨_, p1, p2, p3⟩
noncomputable abbrev rl_unA20 : List (Nat × Nat) := [(20000, 20000), (20001, 20001), (20002, 20002), (20003, 20003), (20004, 20004), (20005, 20005), (20010, 20010)]
noncomputable abbrev ip_unA20 : IP := [(.oi 0, 9), (.oi 1, 10), (.oi 2, 4), (.oi 3, 5), (.oi 4, 3), (.oi 5, 1), (.oi 6, 2), (.oi 7, 7)]
noncomputable abbrev ip2_unA20 : IP := [(.oi 5, 0), (.oi 7, 6)]
theorem unA20 {v r wd c0 u res r1 w1_ b0 : Int} {s d : Nat} {rv rv' : Nat → Value} {E : Nat → Prop} (hM : ∃ l, μ0 13892 = some l) (hb : Base B μ0 20000) (hd : Hid_hideA v r wd c0 s d rv B w0 μ0 w rv' E)
    (s_ : SR20 (u) (res) (r1) (w1_) (b0) (s + 1) (d + 1) rv' (B.also E) w μ0 a w1) : SCA20 (v) (u) (res) (r1) (w1_) (b0) (s) (d) rv B w0 μ0 a w1 := by
  letI : Tab := (PR20 (u) (res) (r1) (w1_) (b0) (s + 1) (d + 1) rv')
  obtain ⟨μ, lf, LL, hx, r_, mf, hE, hrv, m0, m1, m2, m3⟩ := hd
  obtain ⟨μ1, hx1, f1, r1_⟩ := s_
  have g := fun x b h => @HR.blk (PE2a v r wd c0 s d rv) B w0 μ (hOf 20010 bsE2a) w r_ x b h
  obtain ⟨l0, k0, _, _, b0_⟩ := g 20001 (.vec 0) (by kernel_rfl)
  obtain ⟨l1, k1, _, _, b1_⟩ := g 20002 (.vec 1) (by kernel_rfl)
  obtain ⟨l2, k2, _, _, b2_⟩ := g 20003 (.vec 2) (by kernel_rfl)
  obtain ⟨l3, k3, _, _, b3_⟩ := g 20004 (.vec 3) (by kernel_rfl)
  obtain ⟨lf2, kf, nf, _, bf⟩ := g 20006 kb16 (by kernel_rfl)
  rw [m0] at k0; cases k0
  rw [m1] at k1; cases k1
  rw [m2] at k2; cases k2
  rw [m3] at k3; cases k3
  rw [mf] at kf; cases kf
  have q0 := vec_was (c := 0) (L := [(.oi 5), (.oi 6), (.oi 6)]) (LL := LL) (by decide) rfl rfl b0_
  have q1 := vec_was (c := 1) (L := [(.bool false), (.bool false), (.bool false)]) (LL := LL) (by decide) rfl rfl b1_
  have q2 := vec_was (c := 2) (L := [(.int .i64 0), (.int .i64 0), (.int .i64 10), (.oi 7), (.int .i64 1), (.int .i64 3), (.int .i64 0), (.int .i64 0), (.int .i64 0), (.int .i64 0), (.oi 8), (.int .i64 1), (.int .i64 3), (.int .i64 1)]) (LL := LL) (by decide) rfl rfl b2_
  have q3 := vec_was (c := 3) (L := [(.ptr 20006 0), (.ptr 20005 0)]) (LL := LL) (by decide) rfl rfl b3_
  have hEl : E lf.block := by rw [hE]
  have hext : Ext μ1 (upm μ1 20010 lf) := Ext.upm _ (@HR.fresh (PR20 (u) (res) (r1) (w1_) (b0) (s + 1) (d + 1) rv') _ _ _ _ _ r1_ 20010 (by rw [hOf_next]; exact Nat.le_refl _)).2
  have hbf : @brel (PR20 (u) (res) (r1) (w1_) (b0) (s + 1) (d + 1) rv') (upm μ1 20010 lf) kb16 lf w1 := brel_cells bf ((@HR.below (PR20 (u) (res) (r1) (w1_) (b0) (s + 1) (d + 1) rv') _ _ _ _ _ r1_).block _ (.inr hEl)) (fun i x hi hx_ y hy => by
    have h1 := cellOf_mem (L := [(.int .i64 0), (.int .i64 2), (.ptr 13892 0), (.int .i64 0), (.int .i64 10), .nilp]) (by decide) hx_
    simp only [List.mem_cons, List.not_mem_nil, or_false] at h1
    obtain ⟨lm, hlm⟩ := hM
    rcases h1 with rfl | rfl | rfl | rfl | rfl | rfl <;> simp only [vrel] at hy ⊢ <;> first | exact hy | (obtain ⟨l5, h6, h7⟩ := hy; rw [hx _ _ hlm] at h6; cases h6; exact ⟨lm, hext _ _ (hx1 _ _ hlm), h7⟩))
  have r2 := HR.addBack (T1 := (PR20 (u) (res) (r1) (w1_) (b0) (s + 1) (d + 1) rv')) r_ (nf rfl) rfl hEl r1_ (by rw [hOf_next]; decide) (by rw [hOf_next]; exact hbf) (glNone rfl rfl)
  rw [hOf_next] at r2
  have hip : IpOk (PR20 (u) (res) (r1) (w1_) (b0) (s + 1) (d + 1) rv') (PCA20 (v) (u) (res) (r1) (w1_) (b0) (s) (d) rv) ip_unA20 := (ipCons (ipN (.i64, (((s + 1) + 2 : Nat) : Int)) rfl (show (IntKind.i64, ((s + 3 : Nat) : Int)) = (IntKind.i64, (((s + 1) + 2 : Nat) : Int)) from Prod.ext rfl (show (((s + 3 : Nat) : Int) : Int) = (((s + 1) + 2 : Nat) : Int) by omega))) (ipCons (ipN (.i64, (((d + 1) + 1 : Nat) : Int)) rfl (show (IntKind.i64, ((d + 2 : Nat) : Int)) = (IntKind.i64, (((d + 1) + 1 : Nat) : Int)) from Prod.ext rfl (show (((d + 2 : Nat) : Int) : Int) = (((d + 1) + 1 : Nat) : Int) by omega))) (ipCons (ipN (.i64, w1_) rfl rfl) (ipCons (ipN (.i64, b0) rfl rfl) (ipCons (ipN (.i64, r1) rfl rfl) (ipCons (ipN (.i64, u) rfl rfl) (ipCons (ipN (.i64, res) rfl rfl) (ipCons (ipN (.i64, (((s + 1) : Nat) : Int)) rfl (show (IntKind.i64, ((s + 1 : Nat) : Int)) = (IntKind.i64, (((s + 1) : Nat) : Int)) from Prod.ext rfl (show (((s + 1 : Nat) : Int) : Int) = (((s + 1) : Nat) : Int) by omega))) ipNil))))))))
  have hip2 : IpOk (PE2a v r wd c0 s d rv) (PCA20 (v) (u) (res) (r1) (w1_) (b0) (s) (d) rv) ip2_unA20 := (ipCons (ipN (.i64, v) rfl rfl) (ipCons (ipN (.i64, ((s : Nat) : Int)) rfl rfl) ipNil))
  have hvp : ∀ p ∈ ([(20001, .vec 0, 0), (20002, .vec 1, 1), (20003, .vec 2, 2), (20004, .vec 3, 3)] : VP), own p.2.1 = true ∧ ∀ l, (upm μ1 20010 lf) p.1 = some l → @brel (PR20 (u) (res) (r1) (w1_) (b0) (s + 1) (d + 1) rv') (upm μ1 20010 lf) p.2.1 l w1 → @brel (PCA20 (v) (u) (res) (r1) (w1_) (b0) (s) (d) rv) (ren 20000 (ofPairs rl_unA20) (upm μ1 20010 lf)) (.vec p.2.2) l w1 :=
    (allCons ⟨rfl, fun l hl hb_ => vec_unhide (T1 := (PR20 (u) (res) (r1) (w1_) (b0) (s + 1) (d + 1) rv')) (T2 := (PCA20 (v) (u) (res) (r1) (w1_) (b0) (s) (d) rv)) (C := ⟨20000, 20011, ofPairs rl_unA20, ip_unA20⟩) (i1 := 0) (i2 := 0) hip (c := 0) (n := 1) (L2 := [(.oi 5), (.oi 6)]) (L1' := [(.oi 0)]) (L2' := [(.oi 1), (.oi 2)]) rfl rfl rfl (fun m hm => (by show rv' _ = rv _; rw [hrv]; exact q0.1 m hm)) (by rw [show ((PR20 (u) (res) (r1) (w1_) (b0) (s + 1) (d + 1) rv')).rv = snap w LL from hrv]; exact fun m x hx => (by
      obtain ⟨x0, k1, k2⟩ := cvL_get (C := ⟨20000, 20011, ofPairs [], ip2_unA20⟩) (l := [(.oi 5), (.oi 6), (.oi 6)]) (by kernel_rfl) m x hx
      exact @vrel.plain (PCA20 (v) (u) (res) (r1) (w1_) (b0) (s) (d) rv) _ _ x _ (List.all_eq_true.1 (by rfl : ([(.oi 0)] : List AV).all plain = true) x (List.mem_of_getElem? hx)) (cvV_sound (T := (PE2a v r wd c0 s d rv)) (T' := (PCA20 (v) (u) (res) (r1) (w1_) (b0) (s) (d) rv)) hip2 k2 (q0.2 m x0 k1)))) (Nat.le_refl _) (by kernel_rfl) hb_⟩
    (allCons ⟨rfl, fun l hl hb_ => vec_unhide (T1 := (PR20 (u) (res) (r1) (w1_) (b0) (s + 1) (d + 1) rv')) (T2 := (PCA20 (v) (u) (res) (r1) (w1_) (b0) (s) (d) rv)) (C := ⟨20000, 20011, ofPairs rl_unA20, ip_unA20⟩) (i1 := 1) (i2 := 1) hip (c := 1) (n := 1) (L2 := [(.bool false), (.bool false)]) (L1' := [(.bool false)]) (L2' := [(.bool false), (.bool false)]) rfl rfl rfl (fun m hm => (by show rv' _ = rv _; rw [hrv]; exact q1.1 m hm)) (by rw [show ((PR20 (u) (res) (r1) (w1_) (b0) (s + 1) (d + 1) rv')).rv = snap w LL from hrv]; exact fun m x hx => (by
      obtain ⟨x0, k1, k2⟩ := cvL_get (C := ⟨20000, 20011, ofPairs [], ip2_unA20⟩) (l := [(.bool false), (.bool false), (.bool false)]) (by kernel_rfl) m x hx
      exact @vrel.plain (PCA20 (v) (u) (res) (r1) (w1_) (b0) (s) (d) rv) _ _ x _ (List.all_eq_true.1 (by rfl : ([(.bool false)] : List AV).all plain = true) x (List.mem_of_getElem? hx)) (cvV_sound (T := (PE2a v r wd c0 s d rv)) (T' := (PCA20 (v) (u) (res) (r1) (w1_) (b0) (s) (d) rv)) hip2 k2 (q1.2 m x0 k1)))) (Nat.le_refl _) (by kernel_rfl) hb_⟩
    (allCons ⟨rfl, fun l hl hb_ => vec_unhide (T1 := (PR20 (u) (res) (r1) (w1_) (b0) (s + 1) (d + 1) rv')) (T2 := (PCA20 (v) (u) (res) (r1) (w1_) (b0) (s) (d) rv)) (C := ⟨20000, 20011, ofPairs rl_unA20, ip_unA20⟩) (i1 := 2) (i2 := 2) hip (c := 2) (n := 7) (L2 := [(.int .i64 0), (.int .i64 0), (.int .i64 19), (.oi 7), (.int .i64 1), (.int .i64 3), (.int .i64 1)]) (L1' := [(.int .i64 0), (.int .i64 0), (.int .i64 10), (.oi 6), (.int .i64 1), (.int .i64 3), (.int .i64 0)]) (L2' := [(.int .i64 0), (.int .i64 0), (.int .i64 19), (.oi 7), (.int .i64 1), (.int .i64 3), (.int .i64 1)]) rfl rfl rfl (fun m hm => (by show rv' _ = rv _; rw [hrv]; exact q2.1 m hm)) (by rw [show ((PR20 (u) (res) (r1) (w1_) (b0) (s + 1) (d + 1) rv')).rv = snap w LL from hrv]; exact fun m x hx => (by
      obtain ⟨x0, k1, k2⟩ := cvL_get (C := ⟨20000, 20011, ofPairs [], ip2_unA20⟩) (l := [(.int .i64 0), (.int .i64 0), (.int .i64 10), (.oi 7), (.int .i64 1), (.int .i64 3), (.int .i64 0), (.int .i64 0), (.int .i64 0), (.int .i64 0), (.oi 8), (.int .i64 1), (.int .i64 3), (.int .i64 1)]) (by kernel_rfl) m x hx
      exact @vrel.plain (PCA20 (v) (u) (res) (r1) (w1_) (b0) (s) (d) rv) _ _ x _ (List.all_eq_true.1 (by rfl : ([(.int .i64 0), (.int .i64 0), (.int .i64 10), (.oi 6), (.int .i64 1), (.int .i64 3), (.int .i64 0)] : List AV).all plain = true) x (List.mem_of_getElem? hx)) (cvV_sound (T := (PE2a v r wd c0 s d rv)) (T' := (PCA20 (v) (u) (res) (r1) (w1_) (b0) (s) (d) rv)) hip2 k2 (q2.2 m x0 k1)))) (Nat.le_refl _) (by kernel_rfl) hb_⟩
    (allCons ⟨rfl, fun l hl hb_ => vec_unhide (T1 := (PR20 (u) (res) (r1) (w1_) (b0) (s + 1) (d + 1) rv')) (T2 := (PCA20 (v) (u) (res) (r1) (w1_) (b0) (s) (d) rv)) (C := ⟨20000, 20011, ofPairs rl_unA20, ip_unA20⟩) (i1 := 3) (i2 := 3) hip (c := 3) (n := 1) (L2 := [(.ptr 20005 0)]) (L1' := [(.ptr 20010 0)]) (L2' := [(.ptr 20005 0)]) rfl rfl rfl (fun m hm => (by show rv' _ = rv _; rw [hrv]; exact q3.1 m hm)) (by rw [show ((PR20 (u) (res) (r1) (w1_) (b0) (s + 1) (d + 1) rv')).rv = snap w LL from hrv]; exact fun m x hx => (by
      cases m with
      | succ m => simp at hx
      | zero =>
        cases hx
        have h5 := q3.2 0 (.ptr 20006 0) rfl
        simp only [vrel] at h5 ⊢
        obtain ⟨l5, h6, h7⟩ := h5
        rw [mf] at h6; cases h6
        exact ⟨lf, (by show (ofPairs rl_unA20).get 20010 >>= upm μ1 20010 lf = some lf; rfl), h7⟩)) (Nat.le_refl _) (by kernel_rfl) hb_⟩
    allNil))))
  obtain ⟨p1, p2, p3⟩ := HR.weakIn (T := (PR20 (u) (res) (r1) (w1_) (b0) (s + 1) (d + 1) rv')) (T' := (PCA20 (v) (u) (res) (r1) (w1_) (b0) (s) (d) rv)) (C := ⟨20000, 20011, ofPairs rl_unA20, ip_unA20⟩) (rl := rl_unA20) hb (by decide) rfl (by kernel_rfl) hip (vp := [(20001, .vec 0, 0), (20002, .vec 1, 1), (20003, .vec 2, 2), (20004, .vec 3, 3)]) hvp (fs := fsR) (bs := bsCA20) (by kernel_rfl) (by kernel_rfl) (hx1.trans hext) (f1.ext hext) r2 (glNone rfl rfl)
  exact ⟨_, p1, p2, p3⟩
noncomputable abbrev rl_unB20 : List (Nat × Nat) := [(20000, 20000), (20001, 20001), (20002, 20002), (20003, 20003), (20004, 20004), (20005, 20005), (20010, 20010)]
noncomputable abbrev ip_unB20 : IP := [(.oi 0, 10), (.oi 1, 11), (.oi 2, 5), (.oi 3, 6), (.oi 4, 4), (.oi 5, 2), (.oi 6, 3), (.oi 7, 8)]
noncomputable abbrev ip2_unB20 : IP := [(.oi 5, 0), (.oi 6, 1), (.oi 8, 7)]
theorem unB20 {v res r wd c0 u rs r1 w1_ b0 : Int} {s d : Nat} {rv rv' : Nat → Value} {E : Nat → Prop} (hM : ∃ l, μ0 13892 = some l) (hb : Base B μ0 20000) (hd : Hid_hideB v res r wd c0 s d rv B w0 μ0 w rv' E)
    (s_ : SR20 (u) (rs) (r1) (w1_) (b0) (s + 2) (d + 1) rv' (B.also E) w μ0 a w1) : SCB20 (v) (res) (u) (rs) (r1) (w1_) (b0) (s) (d) rv B w0 μ0 a w1 := by
  letI : Tab := (PR20 (u) (rs) (r1) (w1_) (b0) (s + 2) (d + 1) rv')
  obtain ⟨μ, lf, LL, hx, r_, mf, hE, hrv, m0, m1, m2, m3⟩ := hd
  obtain ⟨μ1, hx1, f1, r1_⟩ := s_
  have g := fun x b h => @HR.blk (PE2b v res r wd c0 s d rv) B w0 μ (hOf 20010 bsE2b) w r_ x b h
  obtain ⟨l0, k0, _, _, b0_⟩ := g 20001 (.vec 0) (by kernel_rfl)
  obtain ⟨l1, k1, _, _, b1_⟩ := g 20002 (.vec 1) (by kernel_rfl)
  obtain ⟨l2, k2, _, _, b2_⟩ := g 20003 (.vec 2) (by kernel_rfl)
  obtain ⟨l3, k3, _, _, b3_⟩ := g 20004 (.vec 3) (by kernel_rfl)
  obtain ⟨lf2, kf, nf, _, bf⟩ := g 20006 kb17 (by kernel_rfl)
  rw [m0] at k0; cases k0
  rw [m1] at k1; cases k1
  rw [m2] at k2; cases k2
  rw [m3] at k3; cases k3
  rw [mf] at kf; cases kf
  have q0 := vec_was (c := 0) (L := [(.oi 5), (.oi 6), (.oi 7), (.oi 7)]) (LL := LL) (by decide) rfl rfl b0_
  have q1 := vec_was (c := 1) (L := [(.bool false), (.bool false), (.bool false), (.bool false)]) (LL := LL) (by decide) rfl rfl b1_
  have q2 := vec_was (c := 2) (L := [(.int .i64 0), (.int .i64 0), (.int .i64 16), (.oi 8), (.int .i64 1), (.int .i64 3), (.int .i64 1), (.int .i64 0), (.int .i64 0), (.int .i64 0), (.oi 9), (.int .i64 1), (.int .i64 3), (.int .i64 1)]) (LL := LL) (by decide) rfl rfl b2_
  have q3 := vec_was (c := 3) (L := [(.ptr 20006 0), (.ptr 20005 0)]) (LL := LL) (by decide) rfl rfl b3_
  have hEl : E lf.block := by rw [hE]
  have hext : Ext μ1 (upm μ1 20010 lf) := Ext.upm _ (@HR.fresh (PR20 (u) (rs) (r1) (w1_) (b0) (s + 2) (d + 1) rv') _ _ _ _ _ r1_ 20010 (by rw [hOf_next]; exact Nat.le_refl _)).2
  have hbf : @brel (PR20 (u) (rs) (r1) (w1_) (b0) (s + 2) (d + 1) rv') (upm μ1 20010 lf) kb17 lf w1 := brel_cells bf ((@HR.below (PR20 (u) (rs) (r1) (w1_) (b0) (s + 2) (d + 1) rv') _ _ _ _ _ r1_).block _ (.inr hEl)) (fun i x hi hx_ y hy => by
    have h1 := cellOf_mem (L := [(.int .i64 0), (.int .i64 2), (.ptr 13892 0), (.int .i64 0), (.int .i64 16), .nilp]) (by decide) hx_
    simp only [List.mem_cons, List.not_mem_nil, or_false] at h1
    obtain ⟨lm, hlm⟩ := hM
    rcases h1 with rfl | rfl | rfl | rfl | rfl | rfl <;> simp only [vrel] at hy ⊢ <;> first | exact hy | (obtain ⟨l5, h6, h7⟩ := hy; rw [hx _ _ hlm] at h6; cases h6; exact ⟨lm, hext _ _ (hx1 _ _ hlm), h7⟩))
  have r2 := HR.addBack (T1 := (PR20 (u) (rs) (r1) (w1_) (b0) (s + 2) (d + 1) rv')) r_ (nf rfl) rfl hEl r1_ (by rw [hOf_next]; decide) (by rw [hOf_next]; exact hbf) (glNone rfl rfl)
  rw [hOf_next] at r2
  have hip : IpOk (PR20 (u) (rs) (r1) (w1_) (b0) (s + 2) (d + 1) rv') (PCB20 (v) (res) (u) (rs) (r1) (w1_) (b0) (s) (d) rv) ip_unB20 := (ipCons (ipN (.i64, (((s + 2) + 2 : Nat) : Int)) rfl (show (IntKind.i64, ((s + 4 : Nat) : Int)) = (IntKind.i64, (((s + 2) + 2 : Nat) : Int)) from Prod.ext rfl (show (((s + 4 : Nat) : Int) : Int) = (((s + 2) + 2 : Nat) : Int) by omega))) (ipCons (ipN (.i64, (((d + 1) + 1 : Nat) : Int)) rfl (show (IntKind.i64, ((d + 2 : Nat) : Int)) = (IntKind.i64, (((d + 1) + 1 : Nat) : Int)) from Prod.ext rfl (show (((d + 2 : Nat) : Int) : Int) = (((d + 1) + 1 : Nat) : Int) by omega))) (ipCons (ipN (.i64, w1_) rfl rfl) (ipCons (ipN (.i64, b0) rfl rfl) (ipCons (ipN (.i64, r1) rfl rfl) (ipCons (ipN (.i64, u) rfl rfl) (ipCons (ipN (.i64, rs) rfl rfl) (ipCons (ipN (.i64, (((s + 2) : Nat) : Int)) rfl (show (IntKind.i64, ((s + 2 : Nat) : Int)) = (IntKind.i64, (((s + 2) : Nat) : Int)) from Prod.ext rfl (show (((s + 2 : Nat) : Int) : Int) = (((s + 2) : Nat) : Int) by omega))) ipNil))))))))
  have hip2 : IpOk (PE2b v res r wd c0 s d rv) (PCB20 (v) (res) (u) (rs) (r1) (w1_) (b0) (s) (d) rv) ip2_unB20 := (ipCons (ipN (.i64, v) rfl rfl) (ipCons (ipN (.i64, res) rfl rfl) (ipCons (ipN (.i64, ((s : Nat) : Int)) rfl rfl) ipNil)))
  have hvp : ∀ p ∈ ([(20001, .vec 0, 0), (20002, .vec 1, 1), (20003, .vec 2, 2), (20004, .vec 3, 3)] : VP), own p.2.1 = true ∧ ∀ l, (upm μ1 20010 lf) p.1 = some l → @brel (PR20 (u) (rs) (r1) (w1_) (b0) (s + 2) (d + 1) rv') (upm μ1 20010 lf) p.2.1 l w1 → @brel (PCB20 (v) (res) (u) (rs) (r1) (w1_) (b0) (s) (d) rv) (ren 20000 (ofPairs rl_unB20) (upm μ1 20010 lf)) (.vec p.2.2) l w1 :=
    (allCons ⟨rfl, fun l hl hb_ => vec_unhide (T1 := (PR20 (u) (rs) (r1) (w1_) (b0) (s + 2) (d + 1) rv')) (T2 := (PCB20 (v) (res) (u) (rs) (r1) (w1_) (b0) (s) (d) rv)) (C := ⟨20000, 20011, ofPairs rl_unB20, ip_unB20⟩) (i1 := 0) (i2 := 0) hip (c := 0) (n := 2) (L2 := [(.oi 5), (.oi 6)]) (L1' := [(.oi 0), (.oi 1)]) (L2' := [(.oi 2), (.oi 3)]) rfl rfl rfl (fun m hm => (by show rv' _ = rv _; rw [hrv]; exact q0.1 m hm)) (by rw [show ((PR20 (u) (rs) (r1) (w1_) (b0) (s + 2) (d + 1) rv')).rv = snap w LL from hrv]; exact fun m x hx => (by
      obtain ⟨x0, k1, k2⟩ := cvL_get (C := ⟨20000, 20011, ofPairs [], ip2_unB20⟩) (l := [(.oi 5), (.oi 6), (.oi 7), (.oi 7)]) (by kernel_rfl) m x hx
      exact @vrel.plain (PCB20 (v) (res) (u) (rs) (r1) (w1_) (b0) (s) (d) rv) _ _ x _ (List.all_eq_true.1 (by rfl : ([(.oi 0), (.oi 1)] : List AV).all plain = true) x (List.mem_of_getElem? hx)) (cvV_sound (T := (PE2b v res r wd c0 s d rv)) (T' := (PCB20 (v) (res) (u) (rs) (r1) (w1_) (b0) (s) (d) rv)) hip2 k2 (q0.2 m x0 k1)))) (Nat.le_refl _) (by kernel_rfl) hb_⟩
    (allCons ⟨rfl, fun l hl hb_ => vec_unhide (T1 := (PR20 (u) (rs) (r1) (w1_) (b0) (s + 2) (d + 1) rv')) (T2 := (PCB20 (v) (res) (u) (rs) (r1) (w1_) (b0) (s) (d) rv)) (C := ⟨20000, 20011, ofPairs rl_unB20, ip_unB20⟩) (i1 := 1) (i2 := 1) hip (c := 1) (n := 2) (L2 := [(.bool false), (.bool false)]) (L1' := [(.bool false), (.bool false)]) (L2' := [(.bool false), (.bool false)]) rfl rfl rfl (fun m hm => (by show rv' _ = rv _; rw [hrv]; exact q1.1 m hm)) (by rw [show ((PR20 (u) (rs) (r1) (w1_) (b0) (s + 2) (d + 1) rv')).rv = snap w LL from hrv]; exact fun m x hx => (by
      obtain ⟨x0, k1, k2⟩ := cvL_get (C := ⟨20000, 20011, ofPairs [], ip2_unB20⟩) (l := [(.bool false), (.bool false), (.bool false), (.bool false)]) (by kernel_rfl) m x hx
      exact @vrel.plain (PCB20 (v) (res) (u) (rs) (r1) (w1_) (b0) (s) (d) rv) _ _ x _ (List.all_eq_true.1 (by rfl : ([(.bool false), (.bool false)] : List AV).all plain = true) x (List.mem_of_getElem? hx)) (cvV_sound (T := (PE2b v res r wd c0 s d rv)) (T' := (PCB20 (v) (res) (u) (rs) (r1) (w1_) (b0) (s) (d) rv)) hip2 k2 (q1.2 m x0 k1)))) (Nat.le_refl _) (by kernel_rfl) hb_⟩
    (allCons ⟨rfl, fun l hl hb_ => vec_unhide (T1 := (PR20 (u) (rs) (r1) (w1_) (b0) (s + 2) (d + 1) rv')) (T2 := (PCB20 (v) (res) (u) (rs) (r1) (w1_) (b0) (s) (d) rv)) (C := ⟨20000, 20011, ofPairs rl_unB20, ip_unB20⟩) (i1 := 2) (i2 := 2) hip (c := 2) (n := 7) (L2 := [(.int .i64 0), (.int .i64 0), (.int .i64 19), (.oi 7), (.int .i64 1), (.int .i64 3), (.int .i64 1)]) (L1' := [(.int .i64 0), (.int .i64 0), (.int .i64 16), (.oi 7), (.int .i64 1), (.int .i64 3), (.int .i64 1)]) (L2' := [(.int .i64 0), (.int .i64 0), (.int .i64 19), (.oi 8), (.int .i64 1), (.int .i64 3), (.int .i64 1)]) rfl rfl rfl (fun m hm => (by show rv' _ = rv _; rw [hrv]; exact q2.1 m hm)) (by rw [show ((PR20 (u) (rs) (r1) (w1_) (b0) (s + 2) (d + 1) rv')).rv = snap w LL from hrv]; exact fun m x hx => (by
      obtain ⟨x0, k1, k2⟩ := cvL_get (C := ⟨20000, 20011, ofPairs [], ip2_unB20⟩) (l := [(.int .i64 0), (.int .i64 0), (.int .i64 16), (.oi 8), (.int .i64 1), (.int .i64 3), (.int .i64 1), (.int .i64 0), (.int .i64 0), (.int .i64 0), (.oi 9), (.int .i64 1), (.int .i64 3), (.int .i64 1)]) (by kernel_rfl) m x hx
      exact @vrel.plain (PCB20 (v) (res) (u) (rs) (r1) (w1_) (b0) (s) (d) rv) _ _ x _ (List.all_eq_true.1 (by rfl : ([(.int .i64 0), (.int .i64 0), (.int .i64 16), (.oi 7), (.int .i64 1), (.int .i64 3), (.int .i64 1)] : List AV).all plain = true) x (List.mem_of_getElem? hx)) (cvV_sound (T := (PE2b v res r wd c0 s d rv)) (T' := (PCB20 (v) (res) (u) (rs) (r1) (w1_) (b0) (s) (d) rv)) hip2 k2 (q2.2 m x0 k1)))) (Nat.le_refl _) (by kernel_rfl) hb_⟩
    (allCons ⟨rfl, fun l hl hb_ => vec_unhide (T1 := (PR20 (u) (rs) (r1) (w1_) (b0) (s + 2) (d + 1) rv')) (T2 := (PCB20 (v) (res) (u) (rs) (r1) (w1_) (b0) (s) (d) rv)) (C := ⟨20000, 20011, ofPairs rl_unB20, ip_unB20⟩) (i1 := 3) (i2 := 3) hip (c := 3) (n := 1) (L2 := [(.ptr 20005 0)]) (L1' := [(.ptr 20010 0)]) (L2' := [(.ptr 20005 0)]) rfl rfl rfl (fun m hm => (by show rv' _ = rv _; rw [hrv]; exact q3.1 m hm)) (by rw [show ((PR20 (u) (rs) (r1) (w1_) (b0) (s + 2) (d + 1) rv')).rv = snap w LL from hrv]; exact fun m x hx => (by
      cases m with
      | succ m => simp at hx
      | zero =>
        cases hx
        have h5 := q3.2 0 (.ptr 20006 0) rfl
        simp only [vrel] at h5 ⊢
        obtain ⟨l5, h6, h7⟩ := h5
        rw [mf] at h6; cases h6
        exact ⟨lf, (by show (ofPairs rl_unB20).get 20010 >>= upm μ1 20010 lf = some lf; rfl), h7⟩)) (Nat.le_refl _) (by kernel_rfl) hb_⟩
    allNil))))
  obtain ⟨p1, p2, p3⟩ := HR.weakIn (T := (PR20 (u) (rs) (r1) (w1_) (b0) (s + 2) (d + 1) rv')) (T' := (PCB20 (v) (res) (u) (rs) (r1) (w1_) (b0) (s) (d) rv)) (C := ⟨20000, 20011, ofPairs rl_unB20, ip_unB20⟩) (rl := rl_unB20) hb (by decide) rfl (by kernel_rfl) hip (vp := [(20001, .vec 0, 0), (20002, .vec 1, 1), (20003, .vec 2, 2), (20004, .vec 3, 3)]) hvp (fs := fsR) (bs := bsCB20) (by kernel_rfl) (by kernel_rfl) (hx1.trans hext) (f1.ext hext) r2 (glNone rfl rfl)
  exact ⟨_, p1, p2, p3⟩
end
end Go.Proofs.YtfkfmjlppllfoaaGreatDoor.fb
