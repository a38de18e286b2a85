/-
  What the law TopMarks gives.
-/
import Derived.Test.YtedimikdpclpnaaGreatDoorMAG0
import Derived.Test.YtedimikdpclpnaaGreatDoorMAG1
import Derived.Test.YtedimikdpclpnaaGreatDoorMAG2
import Derived.Test.YtedimikdpclpnaaGreatDoorMAG3
import Derived.Test.YtedimikdpclpnaaGreatDoorMAG4
set_option linter.unusedSectionVars false
set_option linter.unusedVariables false
set_option maxRecDepth 1000000
set_option maxHeartbeats 0
namespace Go.Proofs.YtedimikdpclpnaaGreatDoor.ma
open Go.X Go.RowKit
section
variable {w0 : World} {a : Act} {w : World}
theorem all114 (x r : Int) (x0 : 0 ≤ x) (x2 : x ≤ 0) (hr : r = 118 + 12 * x) (s : L114 x w0 a w) : Code.rounds Tryz.prog laL (QL r w0) (12 * x.toNat + 4) a w := by
  have hx : x = 0 := by omega
  have hz : 12 * x.toNat + 4 = 0 + 4 := by omega
  have hr2 : r = 118 := by omega
  rw [hz, hr2]
  exact end114 hx s
theorem all102 (x r : Int) (x0 : 0 ≤ x) (x2 : x ≤ 1) (hr : r = 106 + 12 * x) (s : L102 x w0 a w) : Code.rounds Tryz.prog laL (QL r w0) (12 * x.toNat + 4) a w := by
  by_cases hx : x = 0
  · have hz : 12 * x.toNat + 4 = 0 + 4 := by omega
    have hr2 : r = 106 := by omega
    rw [hz, hr2]
    exact end102 hx s
  · have x1 : 1 ≤ x := by omega
    have x3 : x < 10 := by omega
    have y0 : 0 ≤ x - 1 := by omega
    have y2 : x - 1 ≤ 0 := by omega
    have y3 : r = 118 + 12 * (x - 1) := by omega
    have hz : 12 * x.toNat + 4 = ((12 * (x - 1).toNat + 4) + 6) + 6 := by omega
    rw [hz]
    exact go102 x1 x3 s fun a1 w1 s1 => go108 x1 x3 s1 fun a2 w2 s2 => all114 (x - 1) r y0 y2 y3 s2
theorem all90 (x r : Int) (x0 : 0 ≤ x) (x2 : x ≤ 2) (hr : r = 94 + 12 * x) (s : L90 x w0 a w) : Code.rounds Tryz.prog laL (QL r w0) (12 * x.toNat + 4) a w := by
  by_cases hx : x = 0
  · have hz : 12 * x.toNat + 4 = 0 + 4 := by omega
    have hr2 : r = 94 := by omega
    rw [hz, hr2]
    exact end90 hx s
  · have x1 : 1 ≤ x := by omega
    have x3 : x < 10 := by omega
    have y0 : 0 ≤ x - 1 := by omega
    have y2 : x - 1 ≤ 1 := by omega
    have y3 : r = 106 + 12 * (x - 1) := by omega
    have hz : 12 * x.toNat + 4 = ((12 * (x - 1).toNat + 4) + 6) + 6 := by omega
    rw [hz]
    exact go90 x1 x3 s fun a1 w1 s1 => go96 x1 x3 s1 fun a2 w2 s2 => all102 (x - 1) r y0 y2 y3 s2
theorem all78 (x r : Int) (x0 : 0 ≤ x) (x2 : x ≤ 3) (hr : r = 82 + 12 * x) (s : L78 x w0 a w) : Code.rounds Tryz.prog laL (QL r w0) (12 * x.toNat + 4) a w := by
  by_cases hx : x = 0
  · have hz : 12 * x.toNat + 4 = 0 + 4 := by omega
    have hr2 : r = 82 := by omega
    rw [hz, hr2]
    exact end78 hx s
  · have x1 : 1 ≤ x := by omega
    have x3 : x < 10 := by omega
    have y0 : 0 ≤ x - 1 := by omega
    have y2 : x - 1 ≤ 2 := by omega
    have y3 : r = 94 + 12 * (x - 1) := by omega
    have hz : 12 * x.toNat + 4 = ((12 * (x - 1).toNat + 4) + 6) + 6 := by omega
    rw [hz]
    exact go78 x1 x3 s fun a1 w1 s1 => go84 x1 x3 s1 fun a2 w2 s2 => all90 (x - 1) r y0 y2 y3 s2
theorem all66 (x r : Int) (x0 : 0 ≤ x) (x2 : x ≤ 4) (hr : r = 70 + 12 * x) (s : L66 x w0 a w) : Code.rounds Tryz.prog laL (QL r w0) (12 * x.toNat + 4) a w := by
  by_cases hx : x = 0
  · have hz : 12 * x.toNat + 4 = 0 + 4 := by omega
    have hr2 : r = 70 := by omega
    rw [hz, hr2]
    exact end66 hx s
  · have x1 : 1 ≤ x := by omega
    have x3 : x < 10 := by omega
    have y0 : 0 ≤ x - 1 := by omega
    have y2 : x - 1 ≤ 3 := by omega
    have y3 : r = 82 + 12 * (x - 1) := by omega
    have hz : 12 * x.toNat + 4 = ((12 * (x - 1).toNat + 4) + 6) + 6 := by omega
    rw [hz]
    exact go66 x1 x3 s fun a1 w1 s1 => go72 x1 x3 s1 fun a2 w2 s2 => all78 (x - 1) r y0 y2 y3 s2
theorem all54 (x r : Int) (x0 : 0 ≤ x) (x2 : x ≤ 5) (hr : r = 58 + 12 * x) (s : L54 x w0 a w) : Code.rounds Tryz.prog laL (QL r w0) (12 * x.toNat + 4) a w := by
  by_cases hx : x = 0
  · have hz : 12 * x.toNat + 4 = 0 + 4 := by omega
    have hr2 : r = 58 := by omega
    rw [hz, hr2]
    exact end54 hx s
  · have x1 : 1 ≤ x := by omega
    have x3 : x < 10 := by omega
    have y0 : 0 ≤ x - 1 := by omega
    have y2 : x - 1 ≤ 4 := by omega
    have y3 : r = 70 + 12 * (x - 1) := by omega
    have hz : 12 * x.toNat + 4 = ((12 * (x - 1).toNat + 4) + 6) + 6 := by omega
    rw [hz]
    exact go54 x1 x3 s fun a1 w1 s1 => go60 x1 x3 s1 fun a2 w2 s2 => all66 (x - 1) r y0 y2 y3 s2
theorem all42 (x r : Int) (x0 : 0 ≤ x) (x2 : x ≤ 6) (hr : r = 46 + 12 * x) (s : L42 x w0 a w) : Code.rounds Tryz.prog laL (QL r w0) (12 * x.toNat + 4) a w := by
  by_cases hx : x = 0
  · have hz : 12 * x.toNat + 4 = 0 + 4 := by omega
    have hr2 : r = 46 := by omega
    rw [hz, hr2]
    exact end42 hx s
  · have x1 : 1 ≤ x := by omega
    have x3 : x < 10 := by omega
    have y0 : 0 ≤ x - 1 := by omega
    have y2 : x - 1 ≤ 5 := by omega
    have y3 : r = 58 + 12 * (x - 1) := by omega
    have hz : 12 * x.toNat + 4 = ((12 * (x - 1).toNat + 4) + 6) + 6 := by omega
    rw [hz]
    exact go42 x1 x3 s fun a1 w1 s1 => go48 x1 x3 s1 fun a2 w2 s2 => all54 (x - 1) r y0 y2 y3 s2
theorem all30 (x r : Int) (x0 : 0 ≤ x) (x2 : x ≤ 7) (hr : r = 34 + 12 * x) (s : L30 x w0 a w) : Code.rounds Tryz.prog laL (QL r w0) (12 * x.toNat + 4) a w := by
  by_cases hx : x = 0
  · have hz : 12 * x.toNat + 4 = 0 + 4 := by omega
    have hr2 : r = 34 := by omega
    rw [hz, hr2]
    exact end30 hx s
  · have x1 : 1 ≤ x := by omega
    have x3 : x < 10 := by omega
    have y0 : 0 ≤ x - 1 := by omega
    have y2 : x - 1 ≤ 6 := by omega
    have y3 : r = 46 + 12 * (x - 1) := by omega
    have hz : 12 * x.toNat + 4 = ((12 * (x - 1).toNat + 4) + 6) + 6 := by omega
    rw [hz]
    exact go30 x1 x3 s fun a1 w1 s1 => go36 x1 x3 s1 fun a2 w2 s2 => all42 (x - 1) r y0 y2 y3 s2
theorem all18 (x r : Int) (x0 : 0 ≤ x) (x2 : x ≤ 8) (hr : r = 22 + 12 * x) (s : L18 x w0 a w) : Code.rounds Tryz.prog laL (QL r w0) (12 * x.toNat + 4) a w := by
  by_cases hx : x = 0
  · have hz : 12 * x.toNat + 4 = 0 + 4 := by omega
    have hr2 : r = 22 := by omega
    rw [hz, hr2]
    exact end18 hx s
  · have x1 : 1 ≤ x := by omega
    have x3 : x < 10 := by omega
    have y0 : 0 ≤ x - 1 := by omega
    have y2 : x - 1 ≤ 7 := by omega
    have y3 : r = 34 + 12 * (x - 1) := by omega
    have hz : 12 * x.toNat + 4 = ((12 * (x - 1).toNat + 4) + 6) + 6 := by omega
    rw [hz]
    exact go18 x1 x3 s fun a1 w1 s1 => go24 x1 x3 s1 fun a2 w2 s2 => all30 (x - 1) r y0 y2 y3 s2
theorem all6 (x r : Int) (x0 : 0 ≤ x) (x2 : x ≤ 9) (hr : r = 10 + 12 * x) (s : L6 x w0 a w) : Code.rounds Tryz.prog laL (QL r w0) (12 * x.toNat + 4) a w := by
  by_cases hx : x = 0
  · have hz : 12 * x.toNat + 4 = 0 + 4 := by omega
    have hr2 : r = 10 := by omega
    rw [hz, hr2]
    exact end6 hx s
  · have x1 : 1 ≤ x := by omega
    have x3 : x < 10 := by omega
    have y0 : 0 ≤ x - 1 := by omega
    have y2 : x - 1 ≤ 8 := by omega
    have y3 : r = 22 + 12 * (x - 1) := by omega
    have hz : 12 * x.toNat + 4 = ((12 * (x - 1).toNat + 4) + 6) + 6 := by omega
    rw [hz]
    exact go6 x1 x3 s fun a1 w1 s1 => go12 x1 x3 s1 fun a2 w2 s2 => all18 (x - 1) r y0 y2 y3 s2
theorem runL {r : Int} : runTrue (TF r) Tryz.prog K_top0 5000 Tryz.f8 tlL (frOf fsE) (hOf 30000 bsE) = true := (by as_aux_lemma => kernel_rfl)
def LA (x : Int) (w0 : World) (a : Act) (w : World) : Prop := St (PL x) (Kp.below w0.heap.size) w0 (fun _ => none) NL (frOf fsA) (hOf 16804 bs0) a w
theorem headL {x : Int} (s : LA x w0 a w) : hdL.wp Tryz.prog (fun e a' w' => e = .normal ∧ L0 x w0 a' w') a w :=
  runTo_sound (T := PL x) (T' := PL x) (K := Hand.none) (n := 100) mixed (@HandOk.none (PL x) Tryz.prog) (C := ⟨0, 16804, ofPairs rl0, [(.oi 0, 0)]⟩) (ex := .normal) (rl := rl0) (vp := []) (fs := fs0) (bs := bs0)
    (Base.none _) (Nat.zero_le _) rfl (by kernel_rfl) (ipCons (ipN (.i64, x) rfl rfl) ipNil) vpNil (glNone rfl rfl) (by as_aux_lemma => kernel_rfl) s
theorem backL {x : Int} (g1 : 0 ≤ x) (g2 : x < 10) (s : LA x w0 a w) : (restn 20 fullL).wp Tryz.prog (Yes Tryz.prog Tryz.f8 (Kp.below w0.heap.size) w0) a w := by
  rw [restL_eq]
  refine wp_seq (wp_seq (wp_mono (headL s) ?_))
  rintro e1 a1 w1 ⟨rfl, s1⟩
  have g3 : x ≤ 9 := by omega
  refine wp_block (wp_mono (wp_loop_rounds ((12 * x.toNat + 4) + 6) (go0 s1 fun a2 w2 s2 => all6 x (10 + 12 * x) g1 g3 rfl s2)) ?_)
  rintro e2 a2 w2 ⟨rfl, s2⟩
  letI : Tab := TF (10 + 12 * x)
  exact runTrue_sound (T := TF (10 + 12 * x)) mixed K_top0_ok runL s2
abbrev ivT (z x r : Int) : Nat → IntKind × Int
  | 0 => (.i64, z)
  | 1 => (.i64, r)
  | 2 => (.i64, x)
  | 3 => (.i32, x)
  | _ => (.i64, 0)
abbrev RTp {z x r : Int} (hr : z.tmod 10 = x) (h0 : 0 ≤ x) (h1 : x < 10) : VRows (ivT z x r) noV noK where
  vvp := noVp
  ib := [(4, .oi 0, .int .i64 10, .oi 2), (11, .oi 2, .int .i64 0, .bool false)]
  ibok := by
    letI := Tab.empty
    exact ibCons (ibRem (a := z) (b := 10) (c := x) rfl rfl rfl (by decide) hr) (ibCons (ibLt (a := x) (b := 0) rfl rfl (decide_eq_false (by omega))) ibNil)
  ic := [(.i32, .oi 2, .oi 3), (.i64, .oi 3, .oi 2)]
  icok := icCons (ic32 (n := x) rfl rfl (by omega) (by omega)) (icCons (ic64 (n := x) rfl rfl (by omega) (by omega)) icNil)
abbrev RTn {z x r : Int} (hr : z.tmod 10 = r) (h0 : r < 0) (h1 : -10 < r) (ht : x = -r) : VRows (ivT z x r) noV noK where
  vvp := noVp
  ib := [(4, .oi 0, .int .i64 10, .oi 1), (11, .oi 1, .int .i64 0, .bool true)]
  ibok := by
    letI := Tab.empty
    exact ibCons (ibRem (a := z) (b := 10) (c := r) rfl rfl rfl (by decide) hr) (ibCons (ibLt (a := r) (b := 0) rfl rfl (decide_eq_true (by omega))) ibNil)
  ic := [(.i32, .oi 2, .oi 3), (.i64, .oi 3, .oi 2)]
  icok := icCons (ic32 (n := x) rfl rfl (by omega) (by omega)) (icCons (ic64 (n := x) rfl rfl (by omega) (by omega)) icNil)
theorem iuTn {z x r : Int} (h0 : r < 0) (h1 : -10 < r) (ht : x = -r) : ∀ q ∈ ([(0, .oi 1, .oi 2)] : List (Nat × AV × AV)), ∀ op, ucode op = q.1 → ∃ k n_ v, denI (ivT z x r) q.2.1 = some (k, n_) ∧ unI op k n_ = some v ∧ outI (ivT z x r) q.2.2 v := fun q hq op hop => by
  simp only [List.mem_cons, List.not_mem_nil, or_false] at hq
  subst hq
  have : op = .neg := by cases op <;> simp [ucode] at hop; rfl
  subst this
  exact ⟨.i64, r, .int .i64 (IntKind.i64.wrap (0 - r)), rfl, rfl, by rw [wrap64 (by omega) (by omega)]; show some (IntKind.i64, x) = some (IntKind.i64, 0 - r); congr 2; omega⟩
abbrev TTp {z x r : Int} (hr : z.tmod 10 = x) (h0 : 0 ≤ x) (h1 : x < 10) : Tab := (RTp (r := r) hr h0 h1).tab
abbrev TTn {z x r : Int} (hr : z.tmod 10 = r) (h0 : r < 0) (h1 : -10 < r) (ht : x = -r) : Tab := { (RTn hr h0 h1 ht).tab with
  iu := [(0, .oi 1, .oi 2)]
  iuok := iuTn h0 h1 ht }
theorem yesp {z x r : Int} (hr : z.tmod 10 = x) (h0 : 0 ≤ x) (h1 : x < 10) (w : World) : Calls Tryz.prog 8 #[.int .i64 z] w fun e w' => e = .returned (.bool true) ∧ Below w.heap.size w w' := by
  refine yes_calls Tryz.func8 bodyL_eq w ?_
  have s0 := @St.start (TTp (r := r) hr h0 h1) [.oi 0] #[.int .i64 z] NL w ⟨fun g o a h => (by cases h), fun i m a h => (by cases h)⟩ (@vrels_cons (TTp (r := r) hr h0 h1) _ _ _ _ _ (by simp only [vrel]; rfl) (by simp [vrels])) (show 1 ≤ NL by decide +kernel) (show 1 < limit by decide)
  refine firstTo_sound (T := (TTp (r := r) hr h0 h1)) (T' := PL x) (K := K_top0) (m := 5000) (n := 20) mixed (@K_top0_ok (TTp (r := r) hr h0 h1)) (C := ⟨0, 16804, ofPairs rl0, [(.oi 2, 0)]⟩) (rl := rl0) (vp := []) (fs := fsA) (bs := bs0)
    (Base.none _) (Nat.zero_le _) rfl (by kernel_rfl) (ipCons (ipN (.i64, x) rfl rfl) ipNil) vpNil (glNone rfl rfl) (by as_aux_lemma => kernel_rfl) s0 fun a' w' s => ?_
  exact backL (by omega) (by omega) s
theorem yesn {z x r : Int} (hr : z.tmod 10 = r) (h0 : r < 0) (h1 : -10 < r) (ht : x = -r) (w : World) : Calls Tryz.prog 8 #[.int .i64 z] w fun e w' => e = .returned (.bool true) ∧ Below w.heap.size w w' := by
  refine yes_calls Tryz.func8 bodyL_eq w ?_
  have s0 := @St.start (TTn hr h0 h1 ht) [.oi 0] #[.int .i64 z] NL w ⟨fun g o a h => (by cases h), fun i m a h => (by cases h)⟩ (@vrels_cons (TTn hr h0 h1 ht) _ _ _ _ _ (by simp only [vrel]; rfl) (by simp [vrels])) (show 1 ≤ NL by decide +kernel) (show 1 < limit by decide)
  refine firstTo_sound (T := (TTn hr h0 h1 ht)) (T' := PL x) (K := K_top0) (m := 5000) (n := 20) mixed (@K_top0_ok (TTn hr h0 h1 ht)) (C := ⟨0, 16804, ofPairs rl0, [(.oi 2, 0)]⟩) (rl := rl0) (vp := []) (fs := fsA) (bs := bs0)
    (Base.none _) (Nat.zero_le _) rfl (by kernel_rfl) (ipCons (ipN (.i64, x) rfl rfl) ipNil) vpNil (glNone rfl rfl) (by as_aux_lemma => kernel_rfl) s0 fun a' w' s => ?_
  exact backL (by omega) (by omega) s
end
end Go.Proofs.YtedimikdpclpnaaGreatDoor.ma
