/-
  What the law TopUnwind gives.
-/
import Derived.Test.YtfkfmjlppllfoaaGreatDoorUNN
import Derived.Test.YtfkfmjlppllfoaaGreatDoorUCA
set_option linter.unusedSectionVars false
set_option linter.unusedVariables false
set_option maxRecDepth 1000000
set_option maxHeartbeats 0
namespace Go.Proofs.YtfkfmjlppllfoaaGreatDoor.uc
open Go.X Go.RowKit Go.Proofs.YtfkfmjlppllfoaaGreatDoor.uq Go.Proofs.YtfkfmjlppllfoaaGreatDoor
noncomputable def fullL : Code := (Tryz.f4.body).getD .skip
theorem bodyL_eq : Tryz.f4.body = some fullL := by kernel_rfl
noncomputable abbrev NL : Nat := Tryz.f4.ntmps
noncomputable abbrev fsA : List (Nat × AV) := [(0, .oi 0), (1, .oi 2), (5, .bool true)]
noncomputable abbrev qq (x y : Int) : Int := 2 + (un.kN y.toNat x.toNat : Int)
section
variable {B : Kp} {w0 : World} {a : Act} {w : World}
theorem runD {x y : Int} (g1 : 1 ≤ x) (g2 : x ≤ 60) (g3 : 0 ≤ y) (g4 : y < 80) (g5 : 1 ≤ y) (g6 : y ≤ x) : runTrue ((RKD (x := x) (y := y) (q := qq x y) (s := 0) (d := 0) (S := 0) (W := 0) g1 g2 g3 g4 g5 g6).tab) Tryz.prog ((inHand CRd).or K_top0) 5000 Tryz.f4 (restn 4 fullL) (frOf fsA) (hOf 6868 []) = true := (by as_aux_lemma => kernel_rfl)
theorem backD {x y : Int} (g1 : 1 ≤ x) (g2 : x ≤ 60) (g3 : 0 ≤ y) (g4 : y < 80) (g5 : 1 ≤ y) (g6 : y ≤ x) (s : St ((RL (x := x) (y := y) (q := qq x y) (s := 0) (d := 0) (S := 0) (W := 0) g1 g2 g3 g4).tab) (Kp.below w0.heap.size) w0 (fun _ => none) NL (frOf fsA) (hOf 6868 []) a w) : (restn 4 fullL).wp Tryz.prog (Yes Tryz.prog Tryz.f4 (Kp.below w0.heap.size) w0) a w := by
  letI : Tab := ((RKD (x := x) (y := y) (q := qq x y) (s := 0) (d := 0) (S := 0) (W := 0) g1 g2 g3 g4 g5 g6).tab)
  exact runTrue_sound (T := ((RKD (x := x) (y := y) (q := qq x y) (s := 0) (d := 0) (S := 0) (W := 0) g1 g2 g3 g4 g5 g6).tab)) un.mixed (HandOk.or (inHand_ok (InOk.tab (VRows.same _ _) (CRd_ok (x := x) (y := y) (q := qq x y) g1 g2 g3 g4 x.toNat y.toNat (by omega) (by omega) (by omega) rfl)) (by kernel_rfl)) K_top0_ok) (runD g1 g2 g3 g4 g5 g6) (St.same (VRows.same _ _) s)
theorem runZ {x y : Int} (g1 : 1 ≤ x) (g2 : x ≤ 60) (g3 : 0 ≤ y) (g4 : y < 80) (g5 : y < 1) : runTrue ((RKZ (x := x) (y := y) (q := qq x y) (s := 0) (d := 0) (S := 0) (W := 0) g1 g2 g3 g4 g5).tab) Tryz.prog ((inHand CRa).or K_top0) 5000 Tryz.f4 (restn 4 fullL) (frOf fsA) (hOf 6868 []) = true := (by as_aux_lemma => kernel_rfl)
theorem backZ {x y : Int} (g1 : 1 ≤ x) (g2 : x ≤ 60) (g3 : 0 ≤ y) (g4 : y < 80) (g5 : y < 1) (s : St ((RL (x := x) (y := y) (q := qq x y) (s := 0) (d := 0) (S := 0) (W := 0) g1 g2 g3 g4).tab) (Kp.below w0.heap.size) w0 (fun _ => none) NL (frOf fsA) (hOf 6868 []) a w) : (restn 4 fullL).wp Tryz.prog (Yes Tryz.prog Tryz.f4 (Kp.below w0.heap.size) w0) a w := by
  letI : Tab := ((RKZ (x := x) (y := y) (q := qq x y) (s := 0) (d := 0) (S := 0) (W := 0) g1 g2 g3 g4 g5).tab)
  exact runTrue_sound (T := ((RKZ (x := x) (y := y) (q := qq x y) (s := 0) (d := 0) (S := 0) (W := 0) g1 g2 g3 g4 g5).tab)) un.mixed (HandOk.or (inHand_ok (InOk.tab (VRows.same _ _) (CRa_ok (x := x) (y := y) (q := qq x y) g1 g2 g3 g4 x.toNat y.toNat (by omega) (by omega) (by omega) rfl)) (by kernel_rfl)) K_top0_ok) (runZ g1 g2 g3 g4 g5) (St.same (VRows.same _ _) s)
theorem runG {x y : Int} (g1 : 1 ≤ x) (g2 : x ≤ 60) (g3 : 0 ≤ y) (g4 : y < 80) (g5 : 1 ≤ y) (g6 : x < y) : runTrue ((RKG (x := x) (y := y) (q := qq x y) (s := 0) (d := 0) (S := 0) (W := 0) g1 g2 g3 g4 g5 g6).tab) Tryz.prog ((inHand CRa).or K_top0) 5000 Tryz.f4 (restn 4 fullL) (frOf fsA) (hOf 6868 []) = true := (by as_aux_lemma => kernel_rfl)
theorem backG {x y : Int} (g1 : 1 ≤ x) (g2 : x ≤ 60) (g3 : 0 ≤ y) (g4 : y < 80) (g5 : 1 ≤ y) (g6 : x < y) (s : St ((RL (x := x) (y := y) (q := qq x y) (s := 0) (d := 0) (S := 0) (W := 0) g1 g2 g3 g4).tab) (Kp.below w0.heap.size) w0 (fun _ => none) NL (frOf fsA) (hOf 6868 []) a w) : (restn 4 fullL).wp Tryz.prog (Yes Tryz.prog Tryz.f4 (Kp.below w0.heap.size) w0) a w := by
  letI : Tab := ((RKG (x := x) (y := y) (q := qq x y) (s := 0) (d := 0) (S := 0) (W := 0) g1 g2 g3 g4 g5 g6).tab)
  exact runTrue_sound (T := ((RKG (x := x) (y := y) (q := qq x y) (s := 0) (d := 0) (S := 0) (W := 0) g1 g2 g3 g4 g5 g6).tab)) un.mixed (HandOk.or (inHand_ok (InOk.tab (VRows.same _ _) (CRa_ok (x := x) (y := y) (q := qq x y) g1 g2 g3 g4 x.toNat y.toNat (by omega) (by omega) (by omega) rfl)) (by kernel_rfl)) K_top0_ok) (runG g1 g2 g3 g4 g5 g6) (St.same (VRows.same _ _) s)
theorem back {x y : Int} (g1 : 1 ≤ x) (g2 : x ≤ 60) (g3 : 0 ≤ y) (g4 : y < 80) (s : St ((RL (x := x) (y := y) (q := qq x y) (s := 0) (d := 0) (S := 0) (W := 0) g1 g2 g3 g4).tab) (Kp.below w0.heap.size) w0 (fun _ => none) NL (frOf fsA) (hOf 6868 []) a w) : (restn 4 fullL).wp Tryz.prog (Yes Tryz.prog Tryz.f4 (Kp.below w0.heap.size) w0) a w := by
  by_cases c : y < 1
  · exact backZ g1 g2 g3 g4 c s
  · by_cases d : y ≤ x
    · exact backD g1 g2 g3 g4 (by omega) d s
    · exact backG g1 g2 g3 g4 (by omega) (by omega) s
end
abbrev ivU (m k r u : Int) : Nat → IntKind × Int
  | 0 => (.i64, m)
  | 1 => (.i64, r)
  | 2 => (.i64, if r < 0 then -r else r)
  | 3 => (.i64, 1 + (if r < 0 then -r else r))
  | 4 => (.i64, k)
  | 5 => (.i64, u)
  | 6 => (.i64, if u < 0 then -u else u)
  | _ => (.i64, 0)
theorem ibUpp {m k r u : Int} (hx : m.tmod 60 = r) (hy : k.tmod 80 = u) (r1 : -60 < r) (r2 : r < 60) (u1 : -80 < u) (u2 : u < 80) (gx : 0 ≤ r) (gy : 0 ≤ u) : ∀ x_ ∈ ([(4, .oi 0, .int .i64 60, .oi 1), (11, .oi 1, .int .i64 0, .bool false), (0, .int .i64 1, .oi 1, .oi 3), (4, .oi 4, .int .i64 80, .oi 5), (11, .oi 5, .int .i64 0, .bool false)] : List BRow), IbOk (ivU m k r u) x_ := by
  letI := Tab.empty
  exact (ibCons (ibRem (a := m) (b := 60) (c := r) rfl rfl rfl (by decide) hx) (ibCons (ibLt (a := r) (b := 0) rfl rfl (decide_eq_false (by omega))) (ibCons (ibAdd (a := 1) (b := r) (c := 1 + (if r < 0 then -r else r)) rfl rfl rfl (by split <;> omega) (by split <;> omega) (by split <;> omega)) (ibCons (ibRem (a := k) (b := 80) (c := u) rfl rfl rfl (by decide) hy) (ibCons (ibLt (a := u) (b := 0) rfl rfl (decide_eq_false (by omega))) ibNil)))))
abbrev RUpp {m k r u : Int} (hx : m.tmod 60 = r) (hy : k.tmod 80 = u) (r1 : -60 < r) (r2 : r < 60) (u1 : -80 < u) (u2 : u < 80) (gx : 0 ≤ r) (gy : 0 ≤ u) : VRows (ivU m k r u) noV noK where
  vvp := noVp
  ib := [(4, .oi 0, .int .i64 60, .oi 1), (11, .oi 1, .int .i64 0, .bool false), (0, .int .i64 1, .oi 1, .oi 3), (4, .oi 4, .int .i64 80, .oi 5), (11, .oi 5, .int .i64 0, .bool false)]
  ibok := ibUpp hx hy r1 r2 u1 u2 gx gy
abbrev TUpp {m k r u : Int} (hx : m.tmod 60 = r) (hy : k.tmod 80 = u) (r1 : -60 < r) (r2 : r < 60) (u1 : -80 < u) (u2 : u < 80) (gx : 0 ≤ r) (gy : 0 ≤ u) : Tab := (RUpp hx hy r1 r2 u1 u2 gx gy).tab
theorem ggpp {m k r u : Int} (hx : m.tmod 60 = r) (hy : k.tmod 80 = u) (r1 : -60 < r) (r2 : r < 60) (u1 : -80 < u) (u2 : u < 80) (gx : 0 ≤ r) (gy : 0 ≤ u) : 1 ≤ (1 + (if r < 0 then -r else r)) ∧ (1 + (if r < 0 then -r else r)) ≤ 60 ∧ 0 ≤ (if u < 0 then -u else u) ∧ (if u < 0 then -u else u) < 80 := by
  refine ⟨?_, ?_, ?_, ?_⟩ <;> split <;> omega
theorem yespp {m k r u : Int} (hx : m.tmod 60 = r) (hy : k.tmod 80 = u) (r1 : -60 < r) (r2 : r < 60) (u1 : -80 < u) (u2 : u < 80) (gx : 0 ≤ r) (gy : 0 ≤ u) (w : World) : Calls Tryz.prog 4 #[.int .i64 m, .int .i64 k] w fun e w' => e = .returned (.bool true) ∧ Below w.heap.size w w' := by
  refine yes_calls Tryz.func4 bodyL_eq w ?_
  have s0 := @St.start (TUpp hx hy r1 r2 u1 u2 gx gy) [.oi 0, .oi 4] #[.int .i64 m, .int .i64 k] NL w ⟨fun g o a h => (by cases h), fun i m a h => (by cases h)⟩ (@vrels_cons (TUpp hx hy r1 r2 u1 u2 gx gy) _ _ _ _ _ (by simp only [vrel]; rfl) (@vrels_cons (TUpp hx hy r1 r2 u1 u2 gx gy) _ _ _ _ _ (by simp only [vrel]; rfl) (by simp [vrels]))) (show 2 ≤ NL by decide +kernel) (show 2 < limit by decide)
  refine firstTo_sound (T := (TUpp hx hy r1 r2 u1 u2 gx gy)) (T' := ((RL (x := (1 + (if r < 0 then -r else r))) (y := (if u < 0 then -u else u)) (q := qq (1 + (if r < 0 then -r else r)) (if u < 0 then -u else u)) (s := 0) (d := 0) (S := 0) (W := 0) (ggpp hx hy r1 r2 u1 u2 gx gy).1 (ggpp hx hy r1 r2 u1 u2 gx gy).2.1 (ggpp hx hy r1 r2 u1 u2 gx gy).2.2.1 (ggpp hx hy r1 r2 u1 u2 gx gy).2.2.2).tab)) (K := K_top0) (m := 5000) (n := 4) un.mixed (@K_top0_ok (TUpp hx hy r1 r2 u1 u2 gx gy)) (C := ⟨0, 6868, ofPairs [], [(.oi 3, 0), (.oi 5, 2)]⟩) (rl := []) (vp := []) (fs := fsA) (bs := [])
      (Base.none _) (Nat.zero_le _) rfl (by kernel_rfl) (ipCons (ipN (.i64, (1 + (if r < 0 then -r else r))) rfl rfl) (ipCons (ipN (.i64, u) rfl (show (IntKind.i64, (if u < 0 then -u else u)) = (IntKind.i64, u) from by rw [if_neg (by omega)])) ipNil)) vpNil (glNone rfl rfl) (by as_aux_lemma => kernel_rfl) s0 fun a' w' s => ?_
  exact back (ggpp hx hy r1 r2 u1 u2 gx gy).1 (ggpp hx hy r1 r2 u1 u2 gx gy).2.1 (ggpp hx hy r1 r2 u1 u2 gx gy).2.2.1 (ggpp hx hy r1 r2 u1 u2 gx gy).2.2.2 s
theorem ibUpn {m k r u : Int} (hx : m.tmod 60 = r) (hy : k.tmod 80 = u) (r1 : -60 < r) (r2 : r < 60) (u1 : -80 < u) (u2 : u < 80) (gx : 0 ≤ r) (gy : u < 0) : ∀ x_ ∈ ([(4, .oi 0, .int .i64 60, .oi 1), (11, .oi 1, .int .i64 0, .bool false), (0, .int .i64 1, .oi 1, .oi 3), (4, .oi 4, .int .i64 80, .oi 5), (11, .oi 5, .int .i64 0, .bool true)] : List BRow), IbOk (ivU m k r u) x_ := by
  letI := Tab.empty
  exact (ibCons (ibRem (a := m) (b := 60) (c := r) rfl rfl rfl (by decide) hx) (ibCons (ibLt (a := r) (b := 0) rfl rfl (decide_eq_false (by omega))) (ibCons (ibAdd (a := 1) (b := r) (c := 1 + (if r < 0 then -r else r)) rfl rfl rfl (by split <;> omega) (by split <;> omega) (by split <;> omega)) (ibCons (ibRem (a := k) (b := 80) (c := u) rfl rfl rfl (by decide) hy) (ibCons (ibLt (a := u) (b := 0) rfl rfl (decide_eq_true (by omega))) ibNil)))))
abbrev RUpn {m k r u : Int} (hx : m.tmod 60 = r) (hy : k.tmod 80 = u) (r1 : -60 < r) (r2 : r < 60) (u1 : -80 < u) (u2 : u < 80) (gx : 0 ≤ r) (gy : u < 0) : VRows (ivU m k r u) noV noK where
  vvp := noVp
  ib := [(4, .oi 0, .int .i64 60, .oi 1), (11, .oi 1, .int .i64 0, .bool false), (0, .int .i64 1, .oi 1, .oi 3), (4, .oi 4, .int .i64 80, .oi 5), (11, .oi 5, .int .i64 0, .bool true)]
  ibok := ibUpn hx hy r1 r2 u1 u2 gx gy
theorem iuTpn {m k r u : Int} (hx : m.tmod 60 = r) (hy : k.tmod 80 = u) (r1 : -60 < r) (r2 : r < 60) (u1 : -80 < u) (u2 : u < 80) (gx : 0 ≤ r) (gy : u < 0) : ∀ q ∈ ([(0, .oi 5, .oi 6)] : List (Nat × AV × AV)), ∀ op, ucode op = q.1 → ∃ k_ n_ v, denI (ivU m k r u) q.2.1 = some (k_, n_) ∧ unI op k_ n_ = some v ∧ outI (ivU m k r u) q.2.2 v := fun q hq op hop => by
  simp only [List.mem_cons, List.not_mem_nil, or_false] at hq
  subst hq
  · have : op = .neg := by cases op <;> simp [ucode] at hop; rfl
    subst this
    exact ⟨.i64, u, .int .i64 (IntKind.i64.wrap (0 - u)), rfl, rfl, by rw [wrap64 (by omega) (by omega)]; show some (IntKind.i64, if u < 0 then -u else u) = some (IntKind.i64, 0 - u); rw [if_pos (by omega)]; congr 2; omega⟩
abbrev TUpn {m k r u : Int} (hx : m.tmod 60 = r) (hy : k.tmod 80 = u) (r1 : -60 < r) (r2 : r < 60) (u1 : -80 < u) (u2 : u < 80) (gx : 0 ≤ r) (gy : u < 0) : Tab := { (RUpn hx hy r1 r2 u1 u2 gx gy).tab with
  iu := [(0, .oi 5, .oi 6)]
  iuok := iuTpn hx hy r1 r2 u1 u2 gx gy }
theorem ggpn {m k r u : Int} (hx : m.tmod 60 = r) (hy : k.tmod 80 = u) (r1 : -60 < r) (r2 : r < 60) (u1 : -80 < u) (u2 : u < 80) (gx : 0 ≤ r) (gy : u < 0) : 1 ≤ (1 + (if r < 0 then -r else r)) ∧ (1 + (if r < 0 then -r else r)) ≤ 60 ∧ 0 ≤ (if u < 0 then -u else u) ∧ (if u < 0 then -u else u) < 80 := by
  refine ⟨?_, ?_, ?_, ?_⟩ <;> split <;> omega
theorem yespn {m k r u : Int} (hx : m.tmod 60 = r) (hy : k.tmod 80 = u) (r1 : -60 < r) (r2 : r < 60) (u1 : -80 < u) (u2 : u < 80) (gx : 0 ≤ r) (gy : u < 0) (w : World) : Calls Tryz.prog 4 #[.int .i64 m, .int .i64 k] w fun e w' => e = .returned (.bool true) ∧ Below w.heap.size w w' := by
  refine yes_calls Tryz.func4 bodyL_eq w ?_
  have s0 := @St.start (TUpn hx hy r1 r2 u1 u2 gx gy) [.oi 0, .oi 4] #[.int .i64 m, .int .i64 k] NL w ⟨fun g o a h => (by cases h), fun i m a h => (by cases h)⟩ (@vrels_cons (TUpn hx hy r1 r2 u1 u2 gx gy) _ _ _ _ _ (by simp only [vrel]; rfl) (@vrels_cons (TUpn hx hy r1 r2 u1 u2 gx gy) _ _ _ _ _ (by simp only [vrel]; rfl) (by simp [vrels]))) (show 2 ≤ NL by decide +kernel) (show 2 < limit by decide)
  refine firstTo_sound (T := (TUpn hx hy r1 r2 u1 u2 gx gy)) (T' := ((RL (x := (1 + (if r < 0 then -r else r))) (y := (if u < 0 then -u else u)) (q := qq (1 + (if r < 0 then -r else r)) (if u < 0 then -u else u)) (s := 0) (d := 0) (S := 0) (W := 0) (ggpn hx hy r1 r2 u1 u2 gx gy).1 (ggpn hx hy r1 r2 u1 u2 gx gy).2.1 (ggpn hx hy r1 r2 u1 u2 gx gy).2.2.1 (ggpn hx hy r1 r2 u1 u2 gx gy).2.2.2).tab)) (K := K_top0) (m := 5000) (n := 4) un.mixed (@K_top0_ok (TUpn hx hy r1 r2 u1 u2 gx gy)) (C := ⟨0, 6868, ofPairs [], [(.oi 3, 0), (.oi 6, 2)]⟩) (rl := []) (vp := []) (fs := fsA) (bs := [])
      (Base.none _) (Nat.zero_le _) rfl (by kernel_rfl) (ipCons (ipN (.i64, (1 + (if r < 0 then -r else r))) rfl rfl) (ipCons (ipN (.i64, (if u < 0 then -u else u)) rfl rfl) ipNil)) vpNil (glNone rfl rfl) (by as_aux_lemma => kernel_rfl) s0 fun a' w' s => ?_
  exact back (ggpn hx hy r1 r2 u1 u2 gx gy).1 (ggpn hx hy r1 r2 u1 u2 gx gy).2.1 (ggpn hx hy r1 r2 u1 u2 gx gy).2.2.1 (ggpn hx hy r1 r2 u1 u2 gx gy).2.2.2 s
theorem ibUnp {m k r u : Int} (hx : m.tmod 60 = r) (hy : k.tmod 80 = u) (r1 : -60 < r) (r2 : r < 60) (u1 : -80 < u) (u2 : u < 80) (gx : r < 0) (gy : 0 ≤ u) : ∀ x_ ∈ ([(4, .oi 0, .int .i64 60, .oi 1), (11, .oi 1, .int .i64 0, .bool true), (0, .int .i64 1, .oi 2, .oi 3), (4, .oi 4, .int .i64 80, .oi 5), (11, .oi 5, .int .i64 0, .bool false)] : List BRow), IbOk (ivU m k r u) x_ := by
  letI := Tab.empty
  exact (ibCons (ibRem (a := m) (b := 60) (c := r) rfl rfl rfl (by decide) hx) (ibCons (ibLt (a := r) (b := 0) rfl rfl (decide_eq_true (by omega))) (ibCons (ibAdd (a := 1) (b := (if r < 0 then -r else r)) (c := 1 + (if r < 0 then -r else r)) rfl rfl rfl (by split <;> omega) (by split <;> omega) (by split <;> omega)) (ibCons (ibRem (a := k) (b := 80) (c := u) rfl rfl rfl (by decide) hy) (ibCons (ibLt (a := u) (b := 0) rfl rfl (decide_eq_false (by omega))) ibNil)))))
abbrev RUnp {m k r u : Int} (hx : m.tmod 60 = r) (hy : k.tmod 80 = u) (r1 : -60 < r) (r2 : r < 60) (u1 : -80 < u) (u2 : u < 80) (gx : r < 0) (gy : 0 ≤ u) : VRows (ivU m k r u) noV noK where
  vvp := noVp
  ib := [(4, .oi 0, .int .i64 60, .oi 1), (11, .oi 1, .int .i64 0, .bool true), (0, .int .i64 1, .oi 2, .oi 3), (4, .oi 4, .int .i64 80, .oi 5), (11, .oi 5, .int .i64 0, .bool false)]
  ibok := ibUnp hx hy r1 r2 u1 u2 gx gy
theorem iuTnp {m k r u : Int} (hx : m.tmod 60 = r) (hy : k.tmod 80 = u) (r1 : -60 < r) (r2 : r < 60) (u1 : -80 < u) (u2 : u < 80) (gx : r < 0) (gy : 0 ≤ u) : ∀ q ∈ ([(0, .oi 1, .oi 2)] : List (Nat × AV × AV)), ∀ op, ucode op = q.1 → ∃ k_ n_ v, denI (ivU m k r u) q.2.1 = some (k_, n_) ∧ unI op k_ n_ = some v ∧ outI (ivU m k r u) q.2.2 v := fun q hq op hop => by
  simp only [List.mem_cons, List.not_mem_nil, or_false] at hq
  subst hq
  · have : op = .neg := by cases op <;> simp [ucode] at hop; rfl
    subst this
    exact ⟨.i64, r, .int .i64 (IntKind.i64.wrap (0 - r)), rfl, rfl, by rw [wrap64 (by omega) (by omega)]; show some (IntKind.i64, if r < 0 then -r else r) = some (IntKind.i64, 0 - r); rw [if_pos (by omega)]; congr 2; omega⟩
abbrev TUnp {m k r u : Int} (hx : m.tmod 60 = r) (hy : k.tmod 80 = u) (r1 : -60 < r) (r2 : r < 60) (u1 : -80 < u) (u2 : u < 80) (gx : r < 0) (gy : 0 ≤ u) : Tab := { (RUnp hx hy r1 r2 u1 u2 gx gy).tab with
  iu := [(0, .oi 1, .oi 2)]
  iuok := iuTnp hx hy r1 r2 u1 u2 gx gy }
theorem ggnp {m k r u : Int} (hx : m.tmod 60 = r) (hy : k.tmod 80 = u) (r1 : -60 < r) (r2 : r < 60) (u1 : -80 < u) (u2 : u < 80) (gx : r < 0) (gy : 0 ≤ u) : 1 ≤ (1 + (if r < 0 then -r else r)) ∧ (1 + (if r < 0 then -r else r)) ≤ 60 ∧ 0 ≤ (if u < 0 then -u else u) ∧ (if u < 0 then -u else u) < 80 := by
  refine ⟨?_, ?_, ?_, ?_⟩ <;> split <;> omega
theorem yesnp {m k r u : Int} (hx : m.tmod 60 = r) (hy : k.tmod 80 = u) (r1 : -60 < r) (r2 : r < 60) (u1 : -80 < u) (u2 : u < 80) (gx : r < 0) (gy : 0 ≤ u) (w : World) : Calls Tryz.prog 4 #[.int .i64 m, .int .i64 k] w fun e w' => e = .returned (.bool true) ∧ Below w.heap.size w w' := by
  refine yes_calls Tryz.func4 bodyL_eq w ?_
  have s0 := @St.start (TUnp hx hy r1 r2 u1 u2 gx gy) [.oi 0, .oi 4] #[.int .i64 m, .int .i64 k] NL w ⟨fun g o a h => (by cases h), fun i m a h => (by cases h)⟩ (@vrels_cons (TUnp hx hy r1 r2 u1 u2 gx gy) _ _ _ _ _ (by simp only [vrel]; rfl) (@vrels_cons (TUnp hx hy r1 r2 u1 u2 gx gy) _ _ _ _ _ (by simp only [vrel]; rfl) (by simp [vrels]))) (show 2 ≤ NL by decide +kernel) (show 2 < limit by decide)
  refine firstTo_sound (T := (TUnp hx hy r1 r2 u1 u2 gx gy)) (T' := ((RL (x := (1 + (if r < 0 then -r else r))) (y := (if u < 0 then -u else u)) (q := qq (1 + (if r < 0 then -r else r)) (if u < 0 then -u else u)) (s := 0) (d := 0) (S := 0) (W := 0) (ggnp hx hy r1 r2 u1 u2 gx gy).1 (ggnp hx hy r1 r2 u1 u2 gx gy).2.1 (ggnp hx hy r1 r2 u1 u2 gx gy).2.2.1 (ggnp hx hy r1 r2 u1 u2 gx gy).2.2.2).tab)) (K := K_top0) (m := 5000) (n := 4) un.mixed (@K_top0_ok (TUnp hx hy r1 r2 u1 u2 gx gy)) (C := ⟨0, 6868, ofPairs [], [(.oi 3, 0), (.oi 5, 2)]⟩) (rl := []) (vp := []) (fs := fsA) (bs := [])
      (Base.none _) (Nat.zero_le _) rfl (by kernel_rfl) (ipCons (ipN (.i64, (1 + (if r < 0 then -r else r))) rfl rfl) (ipCons (ipN (.i64, u) rfl (show (IntKind.i64, (if u < 0 then -u else u)) = (IntKind.i64, u) from by rw [if_neg (by omega)])) ipNil)) vpNil (glNone rfl rfl) (by as_aux_lemma => kernel_rfl) s0 fun a' w' s => ?_
  exact back (ggnp hx hy r1 r2 u1 u2 gx gy).1 (ggnp hx hy r1 r2 u1 u2 gx gy).2.1 (ggnp hx hy r1 r2 u1 u2 gx gy).2.2.1 (ggnp hx hy r1 r2 u1 u2 gx gy).2.2.2 s
theorem ibUnn {m k r u : Int} (hx : m.tmod 60 = r) (hy : k.tmod 80 = u) (r1 : -60 < r) (r2 : r < 60) (u1 : -80 < u) (u2 : u < 80) (gx : r < 0) (gy : u < 0) : ∀ x_ ∈ ([(4, .oi 0, .int .i64 60, .oi 1), (11, .oi 1, .int .i64 0, .bool true), (0, .int .i64 1, .oi 2, .oi 3), (4, .oi 4, .int .i64 80, .oi 5), (11, .oi 5, .int .i64 0, .bool true)] : List BRow), IbOk (ivU m k r u) x_ := by
  letI := Tab.empty
  exact (ibCons (ibRem (a := m) (b := 60) (c := r) rfl rfl rfl (by decide) hx) (ibCons (ibLt (a := r) (b := 0) rfl rfl (decide_eq_true (by omega))) (ibCons (ibAdd (a := 1) (b := (if r < 0 then -r else r)) (c := 1 + (if r < 0 then -r else r)) rfl rfl rfl (by split <;> omega) (by split <;> omega) (by split <;> omega)) (ibCons (ibRem (a := k) (b := 80) (c := u) rfl rfl rfl (by decide) hy) (ibCons (ibLt (a := u) (b := 0) rfl rfl (decide_eq_true (by omega))) ibNil)))))
abbrev RUnn {m k r u : Int} (hx : m.tmod 60 = r) (hy : k.tmod 80 = u) (r1 : -60 < r) (r2 : r < 60) (u1 : -80 < u) (u2 : u < 80) (gx : r < 0) (gy : u < 0) : VRows (ivU m k r u) noV noK where
  vvp := noVp
  ib := [(4, .oi 0, .int .i64 60, .oi 1), (11, .oi 1, .int .i64 0, .bool true), (0, .int .i64 1, .oi 2, .oi 3), (4, .oi 4, .int .i64 80, .oi 5), (11, .oi 5, .int .i64 0, .bool true)]
  ibok := ibUnn hx hy r1 r2 u1 u2 gx gy
theorem iuTnn {m k r u : Int} (hx : m.tmod 60 = r) (hy : k.tmod 80 = u) (r1 : -60 < r) (r2 : r < 60) (u1 : -80 < u) (u2 : u < 80) (gx : r < 0) (gy : u < 0) : ∀ q ∈ ([(0, .oi 1, .oi 2), (0, .oi 5, .oi 6)] : List (Nat × AV × AV)), ∀ op, ucode op = q.1 → ∃ k_ n_ v, denI (ivU m k r u) q.2.1 = some (k_, n_) ∧ unI op k_ n_ = some v ∧ outI (ivU m k r u) q.2.2 v := fun q hq op hop => by
  simp only [List.mem_cons, List.not_mem_nil, or_false] at hq
  rcases hq with rfl | rfl
  · have : op = .neg := by cases op <;> simp [ucode] at hop; rfl
    subst this
    exact ⟨.i64, r, .int .i64 (IntKind.i64.wrap (0 - r)), rfl, rfl, by rw [wrap64 (by omega) (by omega)]; show some (IntKind.i64, if r < 0 then -r else r) = some (IntKind.i64, 0 - r); rw [if_pos (by omega)]; congr 2; omega⟩
  · have : op = .neg := by cases op <;> simp [ucode] at hop; rfl
    subst this
    exact ⟨.i64, u, .int .i64 (IntKind.i64.wrap (0 - u)), rfl, rfl, by rw [wrap64 (by omega) (by omega)]; show some (IntKind.i64, if u < 0 then -u else u) = some (IntKind.i64, 0 - u); rw [if_pos (by omega)]; congr 2; omega⟩
abbrev TUnn {m k r u : Int} (hx : m.tmod 60 = r) (hy : k.tmod 80 = u) (r1 : -60 < r) (r2 : r < 60) (u1 : -80 < u) (u2 : u < 80) (gx : r < 0) (gy : u < 0) : Tab := { (RUnn hx hy r1 r2 u1 u2 gx gy).tab with
  iu := [(0, .oi 1, .oi 2), (0, .oi 5, .oi 6)]
  iuok := iuTnn hx hy r1 r2 u1 u2 gx gy }
theorem ggnn {m k r u : Int} (hx : m.tmod 60 = r) (hy : k.tmod 80 = u) (r1 : -60 < r) (r2 : r < 60) (u1 : -80 < u) (u2 : u < 80) (gx : r < 0) (gy : u < 0) : 1 ≤ (1 + (if r < 0 then -r else r)) ∧ (1 + (if r < 0 then -r else r)) ≤ 60 ∧ 0 ≤ (if u < 0 then -u else u) ∧ (if u < 0 then -u else u) < 80 := by
  refine ⟨?_, ?_, ?_, ?_⟩ <;> split <;> omega
theorem yesnn {m k r u : Int} (hx : m.tmod 60 = r) (hy : k.tmod 80 = u) (r1 : -60 < r) (r2 : r < 60) (u1 : -80 < u) (u2 : u < 80) (gx : r < 0) (gy : u < 0) (w : World) : Calls Tryz.prog 4 #[.int .i64 m, .int .i64 k] w fun e w' => e = .returned (.bool true) ∧ Below w.heap.size w w' := by
  refine yes_calls Tryz.func4 bodyL_eq w ?_
  have s0 := @St.start (TUnn hx hy r1 r2 u1 u2 gx gy) [.oi 0, .oi 4] #[.int .i64 m, .int .i64 k] NL w ⟨fun g o a h => (by cases h), fun i m a h => (by cases h)⟩ (@vrels_cons (TUnn hx hy r1 r2 u1 u2 gx gy) _ _ _ _ _ (by simp only [vrel]; rfl) (@vrels_cons (TUnn hx hy r1 r2 u1 u2 gx gy) _ _ _ _ _ (by simp only [vrel]; rfl) (by simp [vrels]))) (show 2 ≤ NL by decide +kernel) (show 2 < limit by decide)
  refine firstTo_sound (T := (TUnn hx hy r1 r2 u1 u2 gx gy)) (T' := ((RL (x := (1 + (if r < 0 then -r else r))) (y := (if u < 0 then -u else u)) (q := qq (1 + (if r < 0 then -r else r)) (if u < 0 then -u else u)) (s := 0) (d := 0) (S := 0) (W := 0) (ggnn hx hy r1 r2 u1 u2 gx gy).1 (ggnn hx hy r1 r2 u1 u2 gx gy).2.1 (ggnn hx hy r1 r2 u1 u2 gx gy).2.2.1 (ggnn hx hy r1 r2 u1 u2 gx gy).2.2.2).tab)) (K := K_top0) (m := 5000) (n := 4) un.mixed (@K_top0_ok (TUnn hx hy r1 r2 u1 u2 gx gy)) (C := ⟨0, 6868, ofPairs [], [(.oi 3, 0), (.oi 6, 2)]⟩) (rl := []) (vp := []) (fs := fsA) (bs := [])
      (Base.none _) (Nat.zero_le _) rfl (by kernel_rfl) (ipCons (ipN (.i64, (1 + (if r < 0 then -r else r))) rfl rfl) (ipCons (ipN (.i64, (if u < 0 then -u else u)) rfl rfl) ipNil)) vpNil (glNone rfl rfl) (by as_aux_lemma => kernel_rfl) s0 fun a' w' s => ?_
  exact back (ggnn hx hy r1 r2 u1 u2 gx gy).1 (ggnn hx hy r1 r2 u1 u2 gx gy).2.1 (ggnn hx hy r1 r2 u1 u2 gx gy).2.2.1 (ggnn hx hy r1 r2 u1 u2 gx gy).2.2.2 s
end Go.Proofs.YtfkfmjlppllfoaaGreatDoor.uc
