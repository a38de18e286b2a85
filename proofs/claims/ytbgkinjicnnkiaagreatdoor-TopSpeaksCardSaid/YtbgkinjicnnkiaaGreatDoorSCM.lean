/-
  What the law TopSpeaks gives at a number.
-/
import Derived.Test.YtbgkinjicnnkiaaGreatDoorSCR0
import Derived.Test.YtbgkinjicnnkiaaGreatDoorSCR1
import Derived.Test.YtbgkinjicnnkiaaGreatDoorSCR2
import Derived.Test.YtbgkinjicnnkiaaGreatDoorSCR3
import Derived.Test.YtbgkinjicnnkiaaGreatDoorXN3
set_option linter.unusedSectionVars false
set_option linter.unusedVariables false
set_option maxRecDepth 1000000
set_option maxHeartbeats 0
namespace Go.Proofs.YtbgkinjicnnkiaaGreatDoor.sc
open Go.X Go.RowKit Go.Proofs.YtbgkinjicnnkiaaGreatDoor.sq Go.Proofs.YtbgkinjicnnkiaaGreatDoor
theorem backs : ∀ k : Nat, 1 ≤ k → k < 40 → Back k
  | 1, _, _ => back1
  | 2, _, _ => back2
  | 3, _, _ => back3
  | 4, _, _ => back4
  | 5, _, _ => back5
  | 6, _, _ => back6
  | 7, _, _ => back7
  | 8, _, _ => back8
  | 9, _, _ => back9
  | 10, _, _ => back10
  | 11, _, _ => back11
  | 12, _, _ => back12
  | 13, _, _ => back13
  | 14, _, _ => back14
  | 15, _, _ => back15
  | 16, _, _ => back16
  | 17, _, _ => back17
  | 18, _, _ => back18
  | 19, _, _ => back19
  | 20, _, _ => back20
  | 21, _, _ => back21
  | 22, _, _ => back22
  | 23, _, _ => back23
  | 24, _, _ => back24
  | 25, _, _ => back25
  | 26, _, _ => back26
  | 27, _, _ => back27
  | 28, _, _ => back28
  | 29, _, _ => back29
  | 30, _, _ => back30
  | 31, _, _ => back31
  | 32, _, _ => back32
  | 33, _, _ => back33
  | 34, _, _ => back34
  | 35, _, _ => back35
  | 36, _, _ => back36
  | 37, _, _ => back37
  | 38, _, _ => back38
  | 39, _, _ => back39
  | 0, h, _ => absurd h (by decide)
  | n + 40, _, h => absurd h (by omega)
abbrev ivU (m x r : Int) : Nat → IntKind × Int
  | 0 => (.i64, m)
  | 1 => (.i64, x)
  | 2 => (.i64, r)
  | _ => (.i64, 0)
theorem ibUp {m x r : Int} (hx : m.tmod 40 = x) (g1 : 1 ≤ x) (g2 : x < 40) (e1 : r = -x) : ∀ x_ ∈ ([(4, .oi 0, .int .i64 40, .oi 1), (11, .oi 1, .int .i64 0, .bool false)] : List BRow), IbOk (ivU m x r) x_ := by
  letI := Tab.empty
  exact (ibCons (ibRem (a := m) (b := 40) (c := x) rfl rfl rfl (by decide) hx) (ibCons (ibLt (a := x) (b := 0) rfl rfl (decide_eq_false (by omega))) ibNil))
abbrev RUp {m x r : Int} (hx : m.tmod 40 = x) (g1 : 1 ≤ x) (g2 : x < 40) (e1 : r = -x) : VRows (ivU m x r) noV noK where
  vvp := noVp
  ib := [(4, .oi 0, .int .i64 40, .oi 1), (11, .oi 1, .int .i64 0, .bool false)]
  ibok := ibUp hx g1 g2 e1
abbrev TUp {m x r : Int} (hx : m.tmod 40 = x) (g1 : 1 ≤ x) (g2 : x < 40) (e1 : r = -x) : Tab := (RUp hx g1 g2 e1).tab
theorem yesp {m x r : Int} (hx : m.tmod 40 = x) (g1 : 1 ≤ x) (g2 : x < 40) (e1 : r = -x) (q : Int) (w : World) (bk : ∀ (a : Act) (w' : World), St (TTx (x := x) (q := q) g1 g2) (Kp.below w.heap.size) w (fun _ => none) NL (frOf fsA) (hOf 6868 []) a w' → (restn 4 fullL).wp Tryz.prog (Yes Tryz.prog Tryz.f5 (Kp.below w.heap.size) w) a w') : Calls Tryz.prog 5 #[.int .i64 m] w fun e w' => e = .returned (.bool true) ∧ Below w.heap.size w w' := by
  refine yes_calls Tryz.func5 bodyL_eq w ?_
  have s0 := @St.start (TUp hx g1 g2 e1) [.oi 0] #[.int .i64 m] NL w ⟨fun g o a h => (by cases h), fun i m a h => (by cases h)⟩ (@vrels_cons (TUp hx g1 g2 e1) _ _ _ _ _ (by simp only [vrel]; rfl) (by simp [vrels])) (show 1 ≤ NL by decide +kernel) (show 1 < limit by decide)
  refine firstTo_sound (T := (TUp hx g1 g2 e1)) (T' := (TTx (x := x) (q := q) g1 g2)) (K := K_top0) (m := 5000) (n := 4) sp.mixed (@K_top0_ok (TUp hx g1 g2 e1)) (C := ⟨0, 6868, ofPairs [], [(.oi 1, 0)]⟩) (rl := []) (vp := []) (fs := fsA) (bs := [])
      (Base.none _) (Nat.zero_le _) rfl (by kernel_rfl) (ipCons (ipN (.i64, x) rfl rfl) ipNil) vpNil (glNone rfl rfl) (by as_aux_lemma => kernel_rfl) s0 fun a' w' s => ?_
  exact bk a' w' s
theorem ibUn {m x r : Int} (hx : m.tmod 40 = r) (g1 : 1 ≤ x) (g2 : x < 40) (e1 : r = -x) : ∀ x_ ∈ ([(4, .oi 0, .int .i64 40, .oi 2), (11, .oi 2, .int .i64 0, .bool true)] : List BRow), IbOk (ivU m x r) x_ := by
  letI := Tab.empty
  exact (ibCons (ibRem (a := m) (b := 40) (c := r) rfl rfl rfl (by decide) hx) (ibCons (ibLt (a := r) (b := 0) rfl rfl (decide_eq_true (by omega))) ibNil))
abbrev RUn {m x r : Int} (hx : m.tmod 40 = r) (g1 : 1 ≤ x) (g2 : x < 40) (e1 : r = -x) : VRows (ivU m x r) noV noK where
  vvp := noVp
  ib := [(4, .oi 0, .int .i64 40, .oi 2), (11, .oi 2, .int .i64 0, .bool true)]
  ibok := ibUn hx g1 g2 e1
theorem iuT {m x r : Int} (hx : m.tmod 40 = r) (g1 : 1 ≤ x) (g2 : x < 40) (e1 : r = -x) : ∀ q ∈ ([(0, .oi 2, .oi 1)] : List (Nat × AV × AV)), ∀ op, ucode op = q.1 → ∃ k n_ v, denI (ivU m x r) q.2.1 = some (k, n_) ∧ unI op k n_ = some v ∧ outI (ivU m x r) q.2.2 v := fun q hq op hop => by
  simp only [List.mem_cons, List.not_mem_nil, or_false] at hq
  subst hq
  have : op = .neg := by cases op <;> simp [ucode] at hop; rfl
  subst this
  exact ⟨.i64, r, .int .i64 (IntKind.i64.wrap (0 - r)), rfl, rfl, by rw [wrap64 (by omega) (by omega)]; show some (IntKind.i64, x) = some (IntKind.i64, 0 - r); congr 2; omega⟩
abbrev TUn {m x r : Int} (hx : m.tmod 40 = r) (g1 : 1 ≤ x) (g2 : x < 40) (e1 : r = -x) : Tab := { (RUn hx g1 g2 e1).tab with
  iu := [(0, .oi 2, .oi 1)]
  iuok := iuT hx g1 g2 e1 }
theorem yesn {m x r : Int} (hx : m.tmod 40 = r) (g1 : 1 ≤ x) (g2 : x < 40) (e1 : r = -x) (q : Int) (w : World) (bk : ∀ (a : Act) (w' : World), St (TTx (x := x) (q := q) g1 g2) (Kp.below w.heap.size) w (fun _ => none) NL (frOf fsA) (hOf 6868 []) a w' → (restn 4 fullL).wp Tryz.prog (Yes Tryz.prog Tryz.f5 (Kp.below w.heap.size) w) a w') : Calls Tryz.prog 5 #[.int .i64 m] w fun e w' => e = .returned (.bool true) ∧ Below w.heap.size w w' := by
  refine yes_calls Tryz.func5 bodyL_eq w ?_
  have s0 := @St.start (TUn hx g1 g2 e1) [.oi 0] #[.int .i64 m] NL w ⟨fun g o a h => (by cases h), fun i m a h => (by cases h)⟩ (@vrels_cons (TUn hx g1 g2 e1) _ _ _ _ _ (by simp only [vrel]; rfl) (by simp [vrels])) (show 1 ≤ NL by decide +kernel) (show 1 < limit by decide)
  refine firstTo_sound (T := (TUn hx g1 g2 e1)) (T' := (TTx (x := x) (q := q) g1 g2)) (K := K_top0) (m := 5000) (n := 4) sp.mixed (@K_top0_ok (TUn hx g1 g2 e1)) (C := ⟨0, 6868, ofPairs [], [(.oi 1, 0)]⟩) (rl := []) (vp := []) (fs := fsA) (bs := [])
      (Base.none _) (Nat.zero_le _) rfl (by kernel_rfl) (ipCons (ipN (.i64, x) rfl rfl) ipNil) vpNil (glNone rfl rfl) (by as_aux_lemma => kernel_rfl) s0 fun a' w' s => ?_
  exact bk a' w' s
theorem allp {m : Int} (k : Nat) (hx : m.tmod 40 = (k : Int)) (h1 : 1 ≤ k) (h2 : k < 40) (w : World) : Calls Tryz.prog 5 #[.int .i64 m] w fun e w' => e = .returned (.bool true) ∧ Below w.heap.size w w' :=
  yesp (x := (k : Int)) (r := -(k : Int)) hx (by omega) (by omega) rfl (16 + 11 * k) w (fun a w' s => backs k h1 h2 (by omega) (by omega) rfl s)
theorem alln {m : Int} (k : Nat) (hx : m.tmod 40 = -(k : Int)) (h1 : 1 ≤ k) (h2 : k < 40) (w : World) : Calls Tryz.prog 5 #[.int .i64 m] w fun e w' => e = .returned (.bool true) ∧ Below w.heap.size w w' :=
  yesn (x := (k : Int)) (r := -(k : Int)) hx (by omega) (by omega) rfl (16 + 11 * k) w (fun a w' s => backs k h1 h2 (by omega) (by omega) rfl s)
end Go.Proofs.YtbgkinjicnnkiaaGreatDoor.sc
