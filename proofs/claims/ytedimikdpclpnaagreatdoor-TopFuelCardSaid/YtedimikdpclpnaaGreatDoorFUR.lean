/-
  What the law TopFuel gives.
-/
import Derived.Test.YtedimikdpclpnaaGreatDoorFUC
set_option linter.unusedSectionVars false
set_option linter.unusedVariables false
set_option maxRecDepth 1000000
set_option maxHeartbeats 0
namespace Go.Proofs.YtedimikdpclpnaaGreatDoor.fu
open Go.X Go.RowKit
section
variable {B : Kp} {w0 : World} {μ : M} {a : Act} {w : World}
noncomputable def fullL : Code := (Tryz.f6.body).getD .skip
theorem bodyL_eq : Tryz.f6.body = some fullL := by kernel_rfl
noncomputable abbrev NL : Nat := Tryz.f6.ntmps
noncomputable abbrev fsA : List (Nat × AV) := [(0, .oi 0), (1, .oi 1), (5, .bool true)]
abbrev ivT (m n x f r t : Int) : Nat → IntKind × Int
  | 0 => (.i64, m)
  | 1 => (.i64, n)
  | 2 => (.i64, x)
  | 3 => (.i64, f)
  | 4 => (.i64, r)
  | 5 => (.i64, t)
  | _ => (.i64, 0)
theorem runLD {x0 f_ nd S : Int} (g1 : 0 ≤ x0) (g2 : x0 < 100) (g3 : 0 ≤ f_) (g4 : f_ < 1000) (hn : nd = 6 + 8 * x0) (hS : (x0 * (x0 + 1)).tdiv 2 = S) (p0 : 0 ≤ x0 * (x0 + 1)) (p1 : x0 * (x0 + 1) ≤ 9900) (q0 : 0 ≤ S) (q1 : S ≤ 9900) (hg : nd ≤ f_) : runTrue (TD (x := x0) (f := f_) (nd := nd) (S := S) g1 g2 g3 g4 hn hS p0 p1 q0 q1 hg) Tryz.prog ((inHand CR1).or ((inHand CR2D).or K_top0)) 5000 Tryz.f6 (restn 4 fullL) (frOf fsA) (hOf 6868 []) = true := (by as_aux_lemma => kernel_rfl)
theorem backLD {x0 f_ nd S : Int} (g1 : 0 ≤ x0) (g2 : x0 < 100) (g3 : 0 ≤ f_) (g4 : f_ < 1000) (hn : nd = 6 + 8 * x0) (hS : (x0 * (x0 + 1)).tdiv 2 = S) (p0 : 0 ≤ x0 * (x0 + 1)) (p1 : x0 * (x0 + 1) ≤ 9900) (q0 : 0 ≤ S) (q1 : S ≤ 9900) (hg : nd ≤ f_) (s : St (TD (x := x0) (f := f_) (nd := nd) (S := S) g1 g2 g3 g4 hn hS p0 p1 q0 q1 hg) (Kp.below w0.heap.size) w0 (fun _ => none) NL (frOf fsA) (hOf 6868 []) a w) : (restn 4 fullL).wp Tryz.prog (Yes Tryz.prog Tryz.f6 (Kp.below w0.heap.size) w0) a w := by
  letI : Tab := (TD (x := x0) (f := f_) (nd := nd) (S := S) g1 g2 g3 g4 hn hS p0 p1 q0 q1 hg)
  exact runTrue_sound (T := (TD (x := x0) (f := f_) (nd := nd) (S := S) g1 g2 g3 g4 hn hS p0 p1 q0 q1 hg)) mixed (HandOk.or (inHand_ok (CR1D_ok g1 g2 g3 g4 hn hS p0 p1 q0 q1 hg) (by kernel_rfl)) (HandOk.or (inHand_ok (CR2D_ok g1 g2 g3 g4 hn hS p0 p1 q0 q1 hg) (by kernel_rfl)) K_top0_ok)) (runLD g1 g2 g3 g4 hn hS p0 p1 q0 q1 hg) s
theorem runLX {x0 f_ nd S : Int} (g1 : 0 ≤ x0) (g2 : x0 < 100) (g3 : 0 ≤ f_) (g4 : f_ < 1000) (hn : nd = 6 + 8 * x0) (hS : (x0 * (x0 + 1)).tdiv 2 = S) (p0 : 0 ≤ x0 * (x0 + 1)) (p1 : x0 * (x0 + 1) ≤ 9900) (q0 : 0 ≤ S) (q1 : S ≤ 9900) (hg : f_ < nd) : runTrue (TX (x := x0) (f := f_) (nd := nd) (S := S) g1 g2 g3 g4 hn hS p0 p1 q0 q1 hg) Tryz.prog ((inHand CR1).or ((inHand CR2X).or K_top0)) 5000 Tryz.f6 (restn 4 fullL) (frOf fsA) (hOf 6868 []) = true := (by as_aux_lemma => kernel_rfl)
theorem backLX {x0 f_ nd S : Int} (g1 : 0 ≤ x0) (g2 : x0 < 100) (g3 : 0 ≤ f_) (g4 : f_ < 1000) (hn : nd = 6 + 8 * x0) (hS : (x0 * (x0 + 1)).tdiv 2 = S) (p0 : 0 ≤ x0 * (x0 + 1)) (p1 : x0 * (x0 + 1) ≤ 9900) (q0 : 0 ≤ S) (q1 : S ≤ 9900) (hg : f_ < nd) (s : St (TX (x := x0) (f := f_) (nd := nd) (S := S) g1 g2 g3 g4 hn hS p0 p1 q0 q1 hg) (Kp.below w0.heap.size) w0 (fun _ => none) NL (frOf fsA) (hOf 6868 []) a w) : (restn 4 fullL).wp Tryz.prog (Yes Tryz.prog Tryz.f6 (Kp.below w0.heap.size) w0) a w := by
  letI : Tab := (TX (x := x0) (f := f_) (nd := nd) (S := S) g1 g2 g3 g4 hn hS p0 p1 q0 q1 hg)
  exact runTrue_sound (T := (TX (x := x0) (f := f_) (nd := nd) (S := S) g1 g2 g3 g4 hn hS p0 p1 q0 q1 hg)) mixed (HandOk.or (inHand_ok (CR1X_ok g1 g2 g3 g4 hn hS p0 p1 q0 q1 hg) (by kernel_rfl)) (HandOk.or (inHand_ok (CR2X_ok g1 g2 g3 g4 hn hS p0 p1 q0 q1 hg) (by kernel_rfl)) K_top0_ok)) (runLX g1 g2 g3 g4 hn hS p0 p1 q0 q1 hg) s
theorem ibUpp {m n x f r t : Int} (hx : m.tmod 100 = x) (hy : n.tmod 1000 = f) (g1 : 0 ≤ x) (g2 : x < 100) (g3 : 0 ≤ f) (g4 : f < 1000) (e1 : r = -x) (e2 : t = -f) : ∀ x_ ∈ ([(4, .oi 0, .int .i64 100, .oi 2), (11, .oi 2, .int .i64 0, .bool false), (4, .oi 1, .int .i64 1000, .oi 3), (11, .oi 3, .int .i64 0, .bool false)] : List BRow), IbOk (ivT m n x f r t) x_ := by
  letI := Tab.empty
  exact (ibCons (ibRem (a := m) (b := 100) (c := x) rfl rfl rfl (by decide) hx) (ibCons (ibLt (a := x) (b := 0) rfl rfl (decide_eq_false (by omega))) (ibCons (ibRem (a := n) (b := 1000) (c := f) rfl rfl rfl (by decide) hy) (ibCons (ibLt (a := f) (b := 0) rfl rfl (decide_eq_false (by omega))) ibNil))))
abbrev RUpp {m n x f r t : Int} (hx : m.tmod 100 = x) (hy : n.tmod 1000 = f) (g1 : 0 ≤ x) (g2 : x < 100) (g3 : 0 ≤ f) (g4 : f < 1000) (e1 : r = -x) (e2 : t = -f) : VRows (ivT m n x f r t) noV noK where
  vvp := noVp
  ib := [(4, .oi 0, .int .i64 100, .oi 2), (11, .oi 2, .int .i64 0, .bool false), (4, .oi 1, .int .i64 1000, .oi 3), (11, .oi 3, .int .i64 0, .bool false)]
  ibok := ibUpp hx hy g1 g2 g3 g4 e1 e2
abbrev TUpp {m n x f r t : Int} (hx : m.tmod 100 = x) (hy : n.tmod 1000 = f) (g1 : 0 ≤ x) (g2 : x < 100) (g3 : 0 ≤ f) (g4 : f < 1000) (e1 : r = -x) (e2 : t = -f) : Tab := (RUpp hx hy g1 g2 g3 g4 e1 e2).tab
theorem yespp {m n x f r t : Int} (hx : m.tmod 100 = x) (hy : n.tmod 1000 = f) (g1 : 0 ≤ x) (g2 : x < 100) (g3 : 0 ≤ f) (g4 : f < 1000) (e1 : r = -x) (e2 : t = -f) (w : World) : Calls Tryz.prog 6 #[.int .i64 m, .int .i64 n] w fun e w' => e = .returned (.bool true) ∧ Below w.heap.size w w' := by
  have p0 : 0 ≤ x * (x + 1) := Int.mul_nonneg (by omega) (by omega)
  have p1 : x * (x + 1) ≤ 99 * 100 := Int.mul_le_mul (by omega) (by omega) (by omega) (by omega)
  have p1 : x * (x + 1) ≤ 9900 := by omega
  have q0 : 0 ≤ (x * (x + 1)).tdiv 2 := by rw [Int.tdiv_eq_ediv_of_nonneg p0]; omega
  have q1 : (x * (x + 1)).tdiv 2 ≤ 9900 := by rw [Int.tdiv_eq_ediv_of_nonneg p0]; omega
  refine yes_calls Tryz.func6 bodyL_eq w ?_
  have s0 := @St.start (TUpp hx hy g1 g2 g3 g4 e1 e2) [.oi 0, .oi 1] #[.int .i64 m, .int .i64 n] NL w ⟨fun g o a h => (by cases h), fun i m a h => (by cases h)⟩ (@vrels_cons (TUpp hx hy g1 g2 g3 g4 e1 e2) _ _ _ _ _ (by simp only [vrel]; rfl) (@vrels_cons (TUpp hx hy g1 g2 g3 g4 e1 e2) _ _ _ _ _ (by simp only [vrel]; rfl) (by simp [vrels]))) (show 2 ≤ NL by decide +kernel) (show 2 < limit by decide)
  by_cases hg : 6 + 8 * x ≤ f
  · refine firstTo_sound (T := (TUpp hx hy g1 g2 g3 g4 e1 e2)) (T' := (TD (x := x) (f := f) (nd := 6 + 8 * x) (S := (x * (x + 1)).tdiv 2) g1 g2 g3 g4 rfl rfl p0 p1 q0 q1 hg)) (K := K_top0) (m := 5000) (n := 4) mixed (@K_top0_ok (TUpp hx hy g1 g2 g3 g4 e1 e2)) (C := ⟨0, 6868, ofPairs [], [(.oi 2, 0), (.oi 3, 1)]⟩) (rl := []) (vp := []) (fs := fsA) (bs := [])
      (Base.none _) (Nat.zero_le _) rfl (by kernel_rfl) (ipCons (ipN (.i64, x) rfl rfl) (ipCons (ipN (.i64, f) rfl rfl) ipNil)) vpNil (glNone rfl rfl) (by as_aux_lemma => kernel_rfl) s0 fun a' w' s => ?_
    exact backLD g1 g2 g3 g4 rfl rfl p0 p1 q0 q1 hg s
  · have hg : f < 6 + 8 * x := by omega
    refine firstTo_sound (T := (TUpp hx hy g1 g2 g3 g4 e1 e2)) (T' := (TX (x := x) (f := f) (nd := 6 + 8 * x) (S := (x * (x + 1)).tdiv 2) g1 g2 g3 g4 rfl rfl p0 p1 q0 q1 hg)) (K := K_top0) (m := 5000) (n := 4) mixed (@K_top0_ok (TUpp hx hy g1 g2 g3 g4 e1 e2)) (C := ⟨0, 6868, ofPairs [], [(.oi 2, 0), (.oi 3, 1)]⟩) (rl := []) (vp := []) (fs := fsA) (bs := [])
      (Base.none _) (Nat.zero_le _) rfl (by kernel_rfl) (ipCons (ipN (.i64, x) rfl rfl) (ipCons (ipN (.i64, f) rfl rfl) ipNil)) vpNil (glNone rfl rfl) (by as_aux_lemma => kernel_rfl) s0 fun a' w' s => ?_
    exact backLX g1 g2 g3 g4 rfl rfl p0 p1 q0 q1 hg s
theorem ibUpn {m n x f r t : Int} (hx : m.tmod 100 = x) (hy : n.tmod 1000 = t) (g1 : 0 ≤ x) (g2 : x < 100) (g3 : 0 ≤ f) (g4 : f < 1000) (e1 : r = -x) (e2 : t = -f) (n2 : t < 0) : ∀ x_ ∈ ([(4, .oi 0, .int .i64 100, .oi 2), (11, .oi 2, .int .i64 0, .bool false), (4, .oi 1, .int .i64 1000, .oi 5), (11, .oi 5, .int .i64 0, .bool true)] : List BRow), IbOk (ivT m n x f r t) x_ := by
  letI := Tab.empty
  exact (ibCons (ibRem (a := m) (b := 100) (c := x) rfl rfl rfl (by decide) hx) (ibCons (ibLt (a := x) (b := 0) rfl rfl (decide_eq_false (by omega))) (ibCons (ibRem (a := n) (b := 1000) (c := t) rfl rfl rfl (by decide) hy) (ibCons (ibLt (a := t) (b := 0) rfl rfl (decide_eq_true (by omega))) ibNil))))
abbrev RUpn {m n x f r t : Int} (hx : m.tmod 100 = x) (hy : n.tmod 1000 = t) (g1 : 0 ≤ x) (g2 : x < 100) (g3 : 0 ≤ f) (g4 : f < 1000) (e1 : r = -x) (e2 : t = -f) (n2 : t < 0) : VRows (ivT m n x f r t) noV noK where
  vvp := noVp
  ib := [(4, .oi 0, .int .i64 100, .oi 2), (11, .oi 2, .int .i64 0, .bool false), (4, .oi 1, .int .i64 1000, .oi 5), (11, .oi 5, .int .i64 0, .bool true)]
  ibok := ibUpn hx hy g1 g2 g3 g4 e1 e2 n2
theorem iuTpn {m n x f r t : Int} (hx : m.tmod 100 = x) (hy : n.tmod 1000 = t) (g1 : 0 ≤ x) (g2 : x < 100) (g3 : 0 ≤ f) (g4 : f < 1000) (e1 : r = -x) (e2 : t = -f) (n2 : t < 0) : ∀ q ∈ ([(0, .oi 5, .oi 3)] : List (Nat × AV × AV)), ∀ op, ucode op = q.1 → ∃ k n_ v, denI (ivT m n x f r t) q.2.1 = some (k, n_) ∧ unI op k n_ = some v ∧ outI (ivT m n x f r t) q.2.2 v := fun q hq op hop => by
  simp only [List.mem_cons, List.not_mem_nil, or_false] at hq
  subst hq
  · have : op = .neg := by cases op <;> simp [ucode] at hop; rfl
    subst this
    exact ⟨.i64, t, .int .i64 (IntKind.i64.wrap (0 - t)), rfl, rfl, by rw [wrap64 (by omega) (by omega)]; show some (IntKind.i64, f) = some (IntKind.i64, 0 - t); congr 2; omega⟩
abbrev TUpn {m n x f r t : Int} (hx : m.tmod 100 = x) (hy : n.tmod 1000 = t) (g1 : 0 ≤ x) (g2 : x < 100) (g3 : 0 ≤ f) (g4 : f < 1000) (e1 : r = -x) (e2 : t = -f) (n2 : t < 0) : Tab := { (RUpn hx hy g1 g2 g3 g4 e1 e2 n2).tab with
  iu := [(0, .oi 5, .oi 3)]
  iuok := iuTpn hx hy g1 g2 g3 g4 e1 e2 n2 }
theorem yespn {m n x f r t : Int} (hx : m.tmod 100 = x) (hy : n.tmod 1000 = t) (g1 : 0 ≤ x) (g2 : x < 100) (g3 : 0 ≤ f) (g4 : f < 1000) (e1 : r = -x) (e2 : t = -f) (n2 : t < 0) (w : World) : Calls Tryz.prog 6 #[.int .i64 m, .int .i64 n] w fun e w' => e = .returned (.bool true) ∧ Below w.heap.size w w' := by
  have p0 : 0 ≤ x * (x + 1) := Int.mul_nonneg (by omega) (by omega)
  have p1 : x * (x + 1) ≤ 99 * 100 := Int.mul_le_mul (by omega) (by omega) (by omega) (by omega)
  have p1 : x * (x + 1) ≤ 9900 := by omega
  have q0 : 0 ≤ (x * (x + 1)).tdiv 2 := by rw [Int.tdiv_eq_ediv_of_nonneg p0]; omega
  have q1 : (x * (x + 1)).tdiv 2 ≤ 9900 := by rw [Int.tdiv_eq_ediv_of_nonneg p0]; omega
  refine yes_calls Tryz.func6 bodyL_eq w ?_
  have s0 := @St.start (TUpn hx hy g1 g2 g3 g4 e1 e2 n2) [.oi 0, .oi 1] #[.int .i64 m, .int .i64 n] NL w ⟨fun g o a h => (by cases h), fun i m a h => (by cases h)⟩ (@vrels_cons (TUpn hx hy g1 g2 g3 g4 e1 e2 n2) _ _ _ _ _ (by simp only [vrel]; rfl) (@vrels_cons (TUpn hx hy g1 g2 g3 g4 e1 e2 n2) _ _ _ _ _ (by simp only [vrel]; rfl) (by simp [vrels]))) (show 2 ≤ NL by decide +kernel) (show 2 < limit by decide)
  by_cases hg : 6 + 8 * x ≤ f
  · refine firstTo_sound (T := (TUpn hx hy g1 g2 g3 g4 e1 e2 n2)) (T' := (TD (x := x) (f := f) (nd := 6 + 8 * x) (S := (x * (x + 1)).tdiv 2) g1 g2 g3 g4 rfl rfl p0 p1 q0 q1 hg)) (K := K_top0) (m := 5000) (n := 4) mixed (@K_top0_ok (TUpn hx hy g1 g2 g3 g4 e1 e2 n2)) (C := ⟨0, 6868, ofPairs [], [(.oi 2, 0), (.oi 3, 1)]⟩) (rl := []) (vp := []) (fs := fsA) (bs := [])
      (Base.none _) (Nat.zero_le _) rfl (by kernel_rfl) (ipCons (ipN (.i64, x) rfl rfl) (ipCons (ipN (.i64, f) rfl rfl) ipNil)) vpNil (glNone rfl rfl) (by as_aux_lemma => kernel_rfl) s0 fun a' w' s => ?_
    exact backLD g1 g2 g3 g4 rfl rfl p0 p1 q0 q1 hg s
  · have hg : f < 6 + 8 * x := by omega
    refine firstTo_sound (T := (TUpn hx hy g1 g2 g3 g4 e1 e2 n2)) (T' := (TX (x := x) (f := f) (nd := 6 + 8 * x) (S := (x * (x + 1)).tdiv 2) g1 g2 g3 g4 rfl rfl p0 p1 q0 q1 hg)) (K := K_top0) (m := 5000) (n := 4) mixed (@K_top0_ok (TUpn hx hy g1 g2 g3 g4 e1 e2 n2)) (C := ⟨0, 6868, ofPairs [], [(.oi 2, 0), (.oi 3, 1)]⟩) (rl := []) (vp := []) (fs := fsA) (bs := [])
      (Base.none _) (Nat.zero_le _) rfl (by kernel_rfl) (ipCons (ipN (.i64, x) rfl rfl) (ipCons (ipN (.i64, f) rfl rfl) ipNil)) vpNil (glNone rfl rfl) (by as_aux_lemma => kernel_rfl) s0 fun a' w' s => ?_
    exact backLX g1 g2 g3 g4 rfl rfl p0 p1 q0 q1 hg s
theorem ibUnp {m n x f r t : Int} (hx : m.tmod 100 = r) (hy : n.tmod 1000 = f) (g1 : 0 ≤ x) (g2 : x < 100) (g3 : 0 ≤ f) (g4 : f < 1000) (e1 : r = -x) (e2 : t = -f) (n1 : r < 0) : ∀ x_ ∈ ([(4, .oi 0, .int .i64 100, .oi 4), (11, .oi 4, .int .i64 0, .bool true), (4, .oi 1, .int .i64 1000, .oi 3), (11, .oi 3, .int .i64 0, .bool false)] : List BRow), IbOk (ivT m n x f r t) x_ := by
  letI := Tab.empty
  exact (ibCons (ibRem (a := m) (b := 100) (c := r) rfl rfl rfl (by decide) hx) (ibCons (ibLt (a := r) (b := 0) rfl rfl (decide_eq_true (by omega))) (ibCons (ibRem (a := n) (b := 1000) (c := f) rfl rfl rfl (by decide) hy) (ibCons (ibLt (a := f) (b := 0) rfl rfl (decide_eq_false (by omega))) ibNil))))
abbrev RUnp {m n x f r t : Int} (hx : m.tmod 100 = r) (hy : n.tmod 1000 = f) (g1 : 0 ≤ x) (g2 : x < 100) (g3 : 0 ≤ f) (g4 : f < 1000) (e1 : r = -x) (e2 : t = -f) (n1 : r < 0) : VRows (ivT m n x f r t) noV noK where
  vvp := noVp
  ib := [(4, .oi 0, .int .i64 100, .oi 4), (11, .oi 4, .int .i64 0, .bool true), (4, .oi 1, .int .i64 1000, .oi 3), (11, .oi 3, .int .i64 0, .bool false)]
  ibok := ibUnp hx hy g1 g2 g3 g4 e1 e2 n1
theorem iuTnp {m n x f r t : Int} (hx : m.tmod 100 = r) (hy : n.tmod 1000 = f) (g1 : 0 ≤ x) (g2 : x < 100) (g3 : 0 ≤ f) (g4 : f < 1000) (e1 : r = -x) (e2 : t = -f) (n1 : r < 0) : ∀ q ∈ ([(0, .oi 4, .oi 2)] : List (Nat × AV × AV)), ∀ op, ucode op = q.1 → ∃ k n_ v, denI (ivT m n x f r t) q.2.1 = some (k, n_) ∧ unI op k n_ = some v ∧ outI (ivT m n x f r t) q.2.2 v := fun q hq op hop => by
  simp only [List.mem_cons, List.not_mem_nil, or_false] at hq
  subst hq
  · have : op = .neg := by cases op <;> simp [ucode] at hop; rfl
    subst this
    exact ⟨.i64, r, .int .i64 (IntKind.i64.wrap (0 - r)), rfl, rfl, by rw [wrap64 (by omega) (by omega)]; show some (IntKind.i64, x) = some (IntKind.i64, 0 - r); congr 2; omega⟩
abbrev TUnp {m n x f r t : Int} (hx : m.tmod 100 = r) (hy : n.tmod 1000 = f) (g1 : 0 ≤ x) (g2 : x < 100) (g3 : 0 ≤ f) (g4 : f < 1000) (e1 : r = -x) (e2 : t = -f) (n1 : r < 0) : Tab := { (RUnp hx hy g1 g2 g3 g4 e1 e2 n1).tab with
  iu := [(0, .oi 4, .oi 2)]
  iuok := iuTnp hx hy g1 g2 g3 g4 e1 e2 n1 }
theorem yesnp {m n x f r t : Int} (hx : m.tmod 100 = r) (hy : n.tmod 1000 = f) (g1 : 0 ≤ x) (g2 : x < 100) (g3 : 0 ≤ f) (g4 : f < 1000) (e1 : r = -x) (e2 : t = -f) (n1 : r < 0) (w : World) : Calls Tryz.prog 6 #[.int .i64 m, .int .i64 n] w fun e w' => e = .returned (.bool true) ∧ Below w.heap.size w w' := by
  have p0 : 0 ≤ x * (x + 1) := Int.mul_nonneg (by omega) (by omega)
  have p1 : x * (x + 1) ≤ 99 * 100 := Int.mul_le_mul (by omega) (by omega) (by omega) (by omega)
  have p1 : x * (x + 1) ≤ 9900 := by omega
  have q0 : 0 ≤ (x * (x + 1)).tdiv 2 := by rw [Int.tdiv_eq_ediv_of_nonneg p0]; omega
  have q1 : (x * (x + 1)).tdiv 2 ≤ 9900 := by rw [Int.tdiv_eq_ediv_of_nonneg p0]; omega
  refine yes_calls Tryz.func6 bodyL_eq w ?_
  have s0 := @St.start (TUnp hx hy g1 g2 g3 g4 e1 e2 n1) [.oi 0, .oi 1] #[.int .i64 m, .int .i64 n] NL w ⟨fun g o a h => (by cases h), fun i m a h => (by cases h)⟩ (@vrels_cons (TUnp hx hy g1 g2 g3 g4 e1 e2 n1) _ _ _ _ _ (by simp only [vrel]; rfl) (@vrels_cons (TUnp hx hy g1 g2 g3 g4 e1 e2 n1) _ _ _ _ _ (by simp only [vrel]; rfl) (by simp [vrels]))) (show 2 ≤ NL by decide +kernel) (show 2 < limit by decide)
  by_cases hg : 6 + 8 * x ≤ f
  · refine firstTo_sound (T := (TUnp hx hy g1 g2 g3 g4 e1 e2 n1)) (T' := (TD (x := x) (f := f) (nd := 6 + 8 * x) (S := (x * (x + 1)).tdiv 2) g1 g2 g3 g4 rfl rfl p0 p1 q0 q1 hg)) (K := K_top0) (m := 5000) (n := 4) mixed (@K_top0_ok (TUnp hx hy g1 g2 g3 g4 e1 e2 n1)) (C := ⟨0, 6868, ofPairs [], [(.oi 2, 0), (.oi 3, 1)]⟩) (rl := []) (vp := []) (fs := fsA) (bs := [])
      (Base.none _) (Nat.zero_le _) rfl (by kernel_rfl) (ipCons (ipN (.i64, x) rfl rfl) (ipCons (ipN (.i64, f) rfl rfl) ipNil)) vpNil (glNone rfl rfl) (by as_aux_lemma => kernel_rfl) s0 fun a' w' s => ?_
    exact backLD g1 g2 g3 g4 rfl rfl p0 p1 q0 q1 hg s
  · have hg : f < 6 + 8 * x := by omega
    refine firstTo_sound (T := (TUnp hx hy g1 g2 g3 g4 e1 e2 n1)) (T' := (TX (x := x) (f := f) (nd := 6 + 8 * x) (S := (x * (x + 1)).tdiv 2) g1 g2 g3 g4 rfl rfl p0 p1 q0 q1 hg)) (K := K_top0) (m := 5000) (n := 4) mixed (@K_top0_ok (TUnp hx hy g1 g2 g3 g4 e1 e2 n1)) (C := ⟨0, 6868, ofPairs [], [(.oi 2, 0), (.oi 3, 1)]⟩) (rl := []) (vp := []) (fs := fsA) (bs := [])
      (Base.none _) (Nat.zero_le _) rfl (by kernel_rfl) (ipCons (ipN (.i64, x) rfl rfl) (ipCons (ipN (.i64, f) rfl rfl) ipNil)) vpNil (glNone rfl rfl) (by as_aux_lemma => kernel_rfl) s0 fun a' w' s => ?_
    exact backLX g1 g2 g3 g4 rfl rfl p0 p1 q0 q1 hg s
theorem ibUnn {m n x f r t : Int} (hx : m.tmod 100 = r) (hy : n.tmod 1000 = t) (g1 : 0 ≤ x) (g2 : x < 100) (g3 : 0 ≤ f) (g4 : f < 1000) (e1 : r = -x) (e2 : t = -f) (n1 : r < 0) (n2 : t < 0) : ∀ x_ ∈ ([(4, .oi 0, .int .i64 100, .oi 4), (11, .oi 4, .int .i64 0, .bool true), (4, .oi 1, .int .i64 1000, .oi 5), (11, .oi 5, .int .i64 0, .bool true)] : List BRow), IbOk (ivT m n x f r t) x_ := by
  letI := Tab.empty
  exact (ibCons (ibRem (a := m) (b := 100) (c := r) rfl rfl rfl (by decide) hx) (ibCons (ibLt (a := r) (b := 0) rfl rfl (decide_eq_true (by omega))) (ibCons (ibRem (a := n) (b := 1000) (c := t) rfl rfl rfl (by decide) hy) (ibCons (ibLt (a := t) (b := 0) rfl rfl (decide_eq_true (by omega))) ibNil))))
abbrev RUnn {m n x f r t : Int} (hx : m.tmod 100 = r) (hy : n.tmod 1000 = t) (g1 : 0 ≤ x) (g2 : x < 100) (g3 : 0 ≤ f) (g4 : f < 1000) (e1 : r = -x) (e2 : t = -f) (n1 : r < 0) (n2 : t < 0) : VRows (ivT m n x f r t) noV noK where
  vvp := noVp
  ib := [(4, .oi 0, .int .i64 100, .oi 4), (11, .oi 4, .int .i64 0, .bool true), (4, .oi 1, .int .i64 1000, .oi 5), (11, .oi 5, .int .i64 0, .bool true)]
  ibok := ibUnn hx hy g1 g2 g3 g4 e1 e2 n1 n2
theorem iuTnn {m n x f r t : Int} (hx : m.tmod 100 = r) (hy : n.tmod 1000 = t) (g1 : 0 ≤ x) (g2 : x < 100) (g3 : 0 ≤ f) (g4 : f < 1000) (e1 : r = -x) (e2 : t = -f) (n1 : r < 0) (n2 : t < 0) : ∀ q ∈ ([(0, .oi 4, .oi 2), (0, .oi 5, .oi 3)] : List (Nat × AV × AV)), ∀ op, ucode op = q.1 → ∃ k n_ v, denI (ivT m n x f r t) q.2.1 = some (k, n_) ∧ unI op k n_ = some v ∧ outI (ivT m n x f r t) q.2.2 v := fun q hq op hop => by
  simp only [List.mem_cons, List.not_mem_nil, or_false] at hq
  rcases hq with rfl | rfl
  · have : op = .neg := by cases op <;> simp [ucode] at hop; rfl
    subst this
    exact ⟨.i64, r, .int .i64 (IntKind.i64.wrap (0 - r)), rfl, rfl, by rw [wrap64 (by omega) (by omega)]; show some (IntKind.i64, x) = some (IntKind.i64, 0 - r); congr 2; omega⟩
  · have : op = .neg := by cases op <;> simp [ucode] at hop; rfl
    subst this
    exact ⟨.i64, t, .int .i64 (IntKind.i64.wrap (0 - t)), rfl, rfl, by rw [wrap64 (by omega) (by omega)]; show some (IntKind.i64, f) = some (IntKind.i64, 0 - t); congr 2; omega⟩
abbrev TUnn {m n x f r t : Int} (hx : m.tmod 100 = r) (hy : n.tmod 1000 = t) (g1 : 0 ≤ x) (g2 : x < 100) (g3 : 0 ≤ f) (g4 : f < 1000) (e1 : r = -x) (e2 : t = -f) (n1 : r < 0) (n2 : t < 0) : Tab := { (RUnn hx hy g1 g2 g3 g4 e1 e2 n1 n2).tab with
  iu := [(0, .oi 4, .oi 2), (0, .oi 5, .oi 3)]
  iuok := iuTnn hx hy g1 g2 g3 g4 e1 e2 n1 n2 }
theorem yesnn {m n x f r t : Int} (hx : m.tmod 100 = r) (hy : n.tmod 1000 = t) (g1 : 0 ≤ x) (g2 : x < 100) (g3 : 0 ≤ f) (g4 : f < 1000) (e1 : r = -x) (e2 : t = -f) (n1 : r < 0) (n2 : t < 0) (w : World) : Calls Tryz.prog 6 #[.int .i64 m, .int .i64 n] w fun e w' => e = .returned (.bool true) ∧ Below w.heap.size w w' := by
  have p0 : 0 ≤ x * (x + 1) := Int.mul_nonneg (by omega) (by omega)
  have p1 : x * (x + 1) ≤ 99 * 100 := Int.mul_le_mul (by omega) (by omega) (by omega) (by omega)
  have p1 : x * (x + 1) ≤ 9900 := by omega
  have q0 : 0 ≤ (x * (x + 1)).tdiv 2 := by rw [Int.tdiv_eq_ediv_of_nonneg p0]; omega
  have q1 : (x * (x + 1)).tdiv 2 ≤ 9900 := by rw [Int.tdiv_eq_ediv_of_nonneg p0]; omega
  refine yes_calls Tryz.func6 bodyL_eq w ?_
  have s0 := @St.start (TUnn hx hy g1 g2 g3 g4 e1 e2 n1 n2) [.oi 0, .oi 1] #[.int .i64 m, .int .i64 n] NL w ⟨fun g o a h => (by cases h), fun i m a h => (by cases h)⟩ (@vrels_cons (TUnn hx hy g1 g2 g3 g4 e1 e2 n1 n2) _ _ _ _ _ (by simp only [vrel]; rfl) (@vrels_cons (TUnn hx hy g1 g2 g3 g4 e1 e2 n1 n2) _ _ _ _ _ (by simp only [vrel]; rfl) (by simp [vrels]))) (show 2 ≤ NL by decide +kernel) (show 2 < limit by decide)
  by_cases hg : 6 + 8 * x ≤ f
  · refine firstTo_sound (T := (TUnn hx hy g1 g2 g3 g4 e1 e2 n1 n2)) (T' := (TD (x := x) (f := f) (nd := 6 + 8 * x) (S := (x * (x + 1)).tdiv 2) g1 g2 g3 g4 rfl rfl p0 p1 q0 q1 hg)) (K := K_top0) (m := 5000) (n := 4) mixed (@K_top0_ok (TUnn hx hy g1 g2 g3 g4 e1 e2 n1 n2)) (C := ⟨0, 6868, ofPairs [], [(.oi 2, 0), (.oi 3, 1)]⟩) (rl := []) (vp := []) (fs := fsA) (bs := [])
      (Base.none _) (Nat.zero_le _) rfl (by kernel_rfl) (ipCons (ipN (.i64, x) rfl rfl) (ipCons (ipN (.i64, f) rfl rfl) ipNil)) vpNil (glNone rfl rfl) (by as_aux_lemma => kernel_rfl) s0 fun a' w' s => ?_
    exact backLD g1 g2 g3 g4 rfl rfl p0 p1 q0 q1 hg s
  · have hg : f < 6 + 8 * x := by omega
    refine firstTo_sound (T := (TUnn hx hy g1 g2 g3 g4 e1 e2 n1 n2)) (T' := (TX (x := x) (f := f) (nd := 6 + 8 * x) (S := (x * (x + 1)).tdiv 2) g1 g2 g3 g4 rfl rfl p0 p1 q0 q1 hg)) (K := K_top0) (m := 5000) (n := 4) mixed (@K_top0_ok (TUnn hx hy g1 g2 g3 g4 e1 e2 n1 n2)) (C := ⟨0, 6868, ofPairs [], [(.oi 2, 0), (.oi 3, 1)]⟩) (rl := []) (vp := []) (fs := fsA) (bs := [])
      (Base.none _) (Nat.zero_le _) rfl (by kernel_rfl) (ipCons (ipN (.i64, x) rfl rfl) (ipCons (ipN (.i64, f) rfl rfl) ipNil)) vpNil (glNone rfl rfl) (by as_aux_lemma => kernel_rfl) s0 fun a' w' s => ?_
    exact backLX g1 g2 g3 g4 rfl rfl p0 p1 q0 q1 hg s
end
end Go.Proofs.YtedimikdpclpnaaGreatDoor.fu
