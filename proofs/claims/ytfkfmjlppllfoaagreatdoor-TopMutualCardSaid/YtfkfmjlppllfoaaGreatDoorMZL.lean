/-
  What the law TopMutual gives.
-/
import Derived.Test.YtfkfmjlppllfoaaGreatDoorMNN
import Derived.Test.YtfkfmjlppllfoaaGreatDoorMZ1
import Derived.Test.YtfkfmjlppllfoaaGreatDoorMZ2
set_option linter.unusedSectionVars false
set_option linter.unusedVariables false
set_option maxRecDepth 1000000
set_option maxHeartbeats 0
namespace Go.Proofs.YtfkfmjlppllfoaaGreatDoor.mz
open Go.X Go.RowKit Go.Proofs.YtfkfmjlppllfoaaGreatDoor.mq
section
variable {B : Kp} {w0 : World} {μ : M} {a : Act} {w : World}
noncomputable def fullL : Code := (Tryz.f5.body).getD .skip
theorem bodyL_eq : Tryz.f5.body = some fullL := by kernel_rfl
noncomputable abbrev NL : Nat := Tryz.f5.ntmps
noncomputable abbrev fsA : List (Nat × AV) := [(0, .oi 0), (3, .bool true)]
theorem rE_mod : ∀ n : Nat, mu.rE n false = ((n % 2 : Nat) : Int) ∧ mu.rE n true = 1 - ((n % 2 : Nat) : Int)
  | 0 => by decide
  | n + 1 => by
    have h := rE_mod n
    have e1 : mu.rE (n + 1) false = mu.rE n true := rfl
    have e2 : mu.rE (n + 1) true = mu.rE n false := rfl
    rw [e1, e2, h.1, h.2]
    omega
theorem runL {x r1 q C0 C1 r2 : Int} (g1 : 2 ≤ x) (g2 : x < 150) (hr : x.tmod 2 = r2) (hs : 1 - r2 = r1) (b0 : 0 ≤ r2) (b1 : r2 ≤ 1) : runTrue ((RL (x := x) (r1 := r1) (q := q) (c0 := C0) (c1 := C1) (r2 := r2) (s := 0) (d := 0) g1 g2 hr hs b0 b1).tab) Tryz.prog ((inHand CR1).or ((inHand CR2).or K_top0)) 5000 Tryz.f5 (restn 4 fullL) (frOf fsA) (hOf 6868 []) = true := (by as_aux_lemma => kernel_rfl)
theorem backL {x r1 q C0 C1 r2 : Int} (g1 : 2 ≤ x) (g2 : x < 150) (hr : x.tmod 2 = r2) (hs : 1 - r2 = r1) (b0 : 0 ≤ r2) (b1 : r2 ≤ 1) (n : Nat) (hn : x = n + 2) (e1 : mu.rE n true = r1) (e3 : mu.rE n false = r2) (e2 : 18 + 7 * (n : Int) = q) (e4 : 6 + (mu.kE n true + 1) + 1 = C0) (e5 : 6 + (mu.kE n false + 1) = C1) (s : St ((RL (x := x) (r1 := r1) (q := q) (c0 := C0) (c1 := C1) (r2 := r2) (s := 0) (d := 0) g1 g2 hr hs b0 b1).tab) (Kp.below w0.heap.size) w0 (fun _ => none) NL (frOf fsA) (hOf 6868 []) a w) : (restn 4 fullL).wp Tryz.prog (Yes Tryz.prog Tryz.f5 (Kp.below w0.heap.size) w0) a w := by
  letI : Tab := ((RL (x := x) (r1 := r1) (q := q) (c0 := C0) (c1 := C1) (r2 := r2) (s := 0) (d := 0) g1 g2 hr hs b0 b1).tab)
  have k1 := mu.kE_bd n true
  have k2 := mu.kE_bd n false
  exact runTrue_sound (T := ((RL (x := x) (r1 := r1) (q := q) (c0 := C0) (c1 := C1) (r2 := r2) (s := 0) (d := 0) g1 g2 hr hs b0 b1).tab)) mu.mixed (HandOk.or (inHand_ok (CR1_ok g1 g2 hr hs b0 b1 n hn e1 e2 e4 e5) (by kernel_rfl)) (HandOk.or (inHand_ok (CR2_ok g1 g2 hr hs b0 b1 (n + 1) (by omega) e3 (by omega) (by omega) (by omega) (by omega) (by omega)) (by kernel_rfl)) K_top0_ok)) (runL g1 g2 hr hs b0 b1) s
abbrev ivU (m x r : Int) : Nat → IntKind × Int
  | 0 => (.i64, m)
  | 1 => (.i64, x)
  | 2 => (.i64, r)
  | _ => (.i64, 0)
theorem ibUp {m x r : Int} (hx : m.tmod 150 = x) (g1 : 2 ≤ x) (g2 : x < 150) (e1 : r = -x) : ∀ x_ ∈ ([(4, .oi 0, .int .i64 150, .oi 1), (11, .oi 1, .int .i64 0, .bool false)] : List BRow), IbOk (ivU m x r) x_ := by
  letI := Tab.empty
  exact (ibCons (ibRem (a := m) (b := 150) (c := x) rfl rfl rfl (by decide) hx) (ibCons (ibLt (a := x) (b := 0) rfl rfl (decide_eq_false (by omega))) ibNil))
abbrev RUp {m x r : Int} (hx : m.tmod 150 = x) (g1 : 2 ≤ x) (g2 : x < 150) (e1 : r = -x) : VRows (ivU m x r) noV noK where
  vvp := noVp
  ib := [(4, .oi 0, .int .i64 150, .oi 1), (11, .oi 1, .int .i64 0, .bool false)]
  ibok := ibUp hx g1 g2 e1
abbrev TUp {m x r : Int} (hx : m.tmod 150 = x) (g1 : 2 ≤ x) (g2 : x < 150) (e1 : r = -x) : Tab := (RUp hx g1 g2 e1).tab
theorem yesp {m x r : Int} (hx : m.tmod 150 = x) (g1 : 2 ≤ x) (g2 : x < 150) (e1 : r = -x) (w : World) : Calls Tryz.prog 5 #[.int .i64 m] w fun e w' => e = .returned (.bool true) ∧ Below w.heap.size w w' := by
  have t0 : x.tmod 2 = x % 2 := Int.tmod_eq_emod_of_nonneg (by omega)
  have b0 : 0 ≤ x.tmod 2 := by omega
  have b1 : x.tmod 2 ≤ 1 := by omega
  have hn : x = (((x - 2).toNat : Nat) : Int) + 2 := by omega
  have hm := rE_mod (x - 2).toNat
  refine yes_calls Tryz.func5 bodyL_eq w ?_
  have s0 := @St.start (TUp hx g1 g2 e1) [.oi 0] #[.int .i64 m] NL w ⟨fun g o a h => (by cases h), fun i m a h => (by cases h)⟩ (@vrels_cons (TUp hx g1 g2 e1) _ _ _ _ _ (by simp only [vrel]; rfl) (by simp [vrels])) (show 1 ≤ NL by decide +kernel) (show 1 < limit by decide)
  refine firstTo_sound (T := (TUp hx g1 g2 e1)) (T' := ((RL (x := x) (r1 := 1 - x.tmod 2) (q := 18 + 7 * (((x - 2).toNat : Nat) : Int)) (c0 := 6 + (mu.kE (x - 2).toNat true + 1) + 1) (c1 := 6 + (mu.kE (x - 2).toNat false + 1)) (r2 := x.tmod 2) (s := 0) (d := 0) g1 g2 rfl rfl b0 b1).tab)) (K := K_top0) (m := 5000) (n := 4) mu.mixed (@K_top0_ok (TUp hx g1 g2 e1)) (C := ⟨0, 6868, ofPairs [], [(.oi 1, 0)]⟩) (rl := []) (vp := []) (fs := fsA) (bs := [])
      (Base.none _) (Nat.zero_le _) rfl (by kernel_rfl) (ipCons (ipN (.i64, x) rfl rfl) ipNil) vpNil (glNone rfl rfl) (by as_aux_lemma => kernel_rfl) s0 fun a' w' s => ?_
  exact backL g1 g2 rfl rfl b0 b1 (x - 2).toNat hn (by omega) (by omega) rfl rfl rfl s
theorem ibUn {m x r : Int} (hx : m.tmod 150 = r) (g1 : 2 ≤ x) (g2 : x < 150) (e1 : r = -x) : ∀ x_ ∈ ([(4, .oi 0, .int .i64 150, .oi 2), (11, .oi 2, .int .i64 0, .bool true)] : List BRow), IbOk (ivU m x r) x_ := by
  letI := Tab.empty
  exact (ibCons (ibRem (a := m) (b := 150) (c := r) rfl rfl rfl (by decide) hx) (ibCons (ibLt (a := r) (b := 0) rfl rfl (decide_eq_true (by omega))) ibNil))
abbrev RUn {m x r : Int} (hx : m.tmod 150 = r) (g1 : 2 ≤ x) (g2 : x < 150) (e1 : r = -x) : VRows (ivU m x r) noV noK where
  vvp := noVp
  ib := [(4, .oi 0, .int .i64 150, .oi 2), (11, .oi 2, .int .i64 0, .bool true)]
  ibok := ibUn hx g1 g2 e1
theorem iuT {m x r : Int} (hx : m.tmod 150 = r) (g1 : 2 ≤ x) (g2 : x < 150) (e1 : r = -x) : ∀ q ∈ ([(0, .oi 2, .oi 1)] : List (Nat × AV × AV)), ∀ op, ucode op = q.1 → ∃ k n_ v, denI (ivU m x r) q.2.1 = some (k, n_) ∧ unI op k n_ = some v ∧ outI (ivU m x r) q.2.2 v := fun q hq op hop => by
  simp only [List.mem_cons, List.not_mem_nil, or_false] at hq
  subst hq
  have : op = .neg := by cases op <;> simp [ucode] at hop; rfl
  subst this
  exact ⟨.i64, r, .int .i64 (IntKind.i64.wrap (0 - r)), rfl, rfl, by rw [wrap64 (by omega) (by omega)]; show some (IntKind.i64, x) = some (IntKind.i64, 0 - r); congr 2; omega⟩
abbrev TUn {m x r : Int} (hx : m.tmod 150 = r) (g1 : 2 ≤ x) (g2 : x < 150) (e1 : r = -x) : Tab := { (RUn hx g1 g2 e1).tab with
  iu := [(0, .oi 2, .oi 1)]
  iuok := iuT hx g1 g2 e1 }
theorem yesn {m x r : Int} (hx : m.tmod 150 = r) (g1 : 2 ≤ x) (g2 : x < 150) (e1 : r = -x) (w : World) : Calls Tryz.prog 5 #[.int .i64 m] w fun e w' => e = .returned (.bool true) ∧ Below w.heap.size w w' := by
  have t0 : x.tmod 2 = x % 2 := Int.tmod_eq_emod_of_nonneg (by omega)
  have b0 : 0 ≤ x.tmod 2 := by omega
  have b1 : x.tmod 2 ≤ 1 := by omega
  have hn : x = (((x - 2).toNat : Nat) : Int) + 2 := by omega
  have hm := rE_mod (x - 2).toNat
  refine yes_calls Tryz.func5 bodyL_eq w ?_
  have s0 := @St.start (TUn hx g1 g2 e1) [.oi 0] #[.int .i64 m] NL w ⟨fun g o a h => (by cases h), fun i m a h => (by cases h)⟩ (@vrels_cons (TUn hx g1 g2 e1) _ _ _ _ _ (by simp only [vrel]; rfl) (by simp [vrels])) (show 1 ≤ NL by decide +kernel) (show 1 < limit by decide)
  refine firstTo_sound (T := (TUn hx g1 g2 e1)) (T' := ((RL (x := x) (r1 := 1 - x.tmod 2) (q := 18 + 7 * (((x - 2).toNat : Nat) : Int)) (c0 := 6 + (mu.kE (x - 2).toNat true + 1) + 1) (c1 := 6 + (mu.kE (x - 2).toNat false + 1)) (r2 := x.tmod 2) (s := 0) (d := 0) g1 g2 rfl rfl b0 b1).tab)) (K := K_top0) (m := 5000) (n := 4) mu.mixed (@K_top0_ok (TUn hx g1 g2 e1)) (C := ⟨0, 6868, ofPairs [], [(.oi 1, 0)]⟩) (rl := []) (vp := []) (fs := fsA) (bs := [])
      (Base.none _) (Nat.zero_le _) rfl (by kernel_rfl) (ipCons (ipN (.i64, x) rfl rfl) ipNil) vpNil (glNone rfl rfl) (by as_aux_lemma => kernel_rfl) s0 fun a' w' s => ?_
  exact backL g1 g2 rfl rfl b0 b1 (x - 2).toNat hn (by omega) (by omega) rfl rfl rfl s
end
end Go.Proofs.YtfkfmjlppllfoaaGreatDoor.mz
