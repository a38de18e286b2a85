/-
  The law NativeBuilder: a number is appended; a round; the loop.
-/
import Derived.Test.YtkkaifeiopjjdaaGreatDoorBDQ2
set_option linter.unusedVariables false
set_option linter.unusedSimpArgs false
set_option linter.unusedSectionVars false
set_option maxRecDepth 1000000
set_option maxHeartbeats 0
namespace Go.Proofs.YtkkaifeiopjjdaaGreatDoor.bd
open Go.X Go.RowKit Go.Proofs
section
variable {y z : Bool} {u : Ue} {c : Co} {i : Nat} {n : Bool} {B : Kp} {w0 : World} {μ : M} {a : Act} {w : World}
def QA (y z : Bool) (u : Ue) (i : Nat) (B : Kp) (w0 : World) (μ : M) (x : Exit) (a : Act) (w : World) : Prop := x = .normal ∧ ∃ c n, Iv u c (i + 1) n (81 * (i + 1)) (bT (i + 1)) (2 + 3 * (i + 1)) ∧ SA y z u c i n B w0 μ a w
theorem nmOf (o : UOk u) (h : i % 4 < 2) : Nm (pB u c i) := by
  have e1 : pL u i = (Lib.itoa (pM u i)).length := if_pos h
  have e2 : pC u i = stx.Cn (pM u i) := if_pos h
  have h1 := i32_lo (u.ns i)
  have h2 := o.nn i
  have h3 : -9223372036854775808 ≤ pM u i ∧ pM u i ≤ 9223372036854775807 := by
    unfold pM
    split
    · omega
    · exact h2
  exact ⟨h3.1, h3.2, e1, e2⟩
theorem pL_le (o : UOk u) : pL u i ≤ 21 := by
  by_cases h : i % 4 < 2
  · have e1 : pL u i = (Lib.itoa (pM u i)).length := if_pos h
    have q := nmOf (c := ⟨0, fun _ => 0, 0, fun _ => 0, 0, 0, 0, fun _ => 0⟩) o h
    rw [e1]
    exact Lib.itoa_length_le _ q.m0 q.m1
  · unfold pL
    rw [if_neg h]
    split
    · decide
    · split <;> decide
theorem pL_pos (o : UOk u) : 0 < pL u i := by
  by_cases h : i % 4 < 2
  · have e1 : pL u i = (Lib.itoa (pM u i)).length := if_pos h
    rw [e1]
    exact stx.itoa_pos _
  · unfold pL
    rw [if_neg h]
    split
    · decide
    · split <;> decide
theorem qa (hc : Iv u (cQ (pB u c i)) (i + 1) false (81 * (i + 1)) (bT (i + 1)) (2 + 3 * (i + 1))) {C : Code} (h : C.wp Tryz.prog (fun x a' w' => x = .normal ∧ SA y false u (cQ (pB u c i)) i false B w0 μ a' w') a w) : C.wp Tryz.prog (QA y false u i B w0 μ) a w := wp_mono h fun x a' w' q => ⟨q.1, _, false, hc, q.2⟩
theorem halfB (hz : z = true → u.ln = 0) (hb : Base B μ 20000) (o : UOk u) (hi : i < 8) (v : Iv u c i n (81 * i + 60) (bT i + 18 + wd (81 * i + 60)) (4 + 3 * i)) (g : Gs u B w0) (s : SB y z u c i n B w0 μ a w) : cB.wp Tryz.prog (QA y z u i B w0 μ) a w := by
  have h0 := bnd hi
  have hbT : bT (i + 1) = bT i + 18 + wd (81 * i + 60) + wd (81 * i + 81) := rfl
  have k3 := v.b.lt; have k4 := v.b.tot; have k5 := v.b.cnt
  by_cases hu : i < u.ln
  · obtain rfl : z = false := by
      cases z with
      | false => rfl
      | true => have := hz rfl; omega
    have l1 := pL_le (u := u) (i := i) o
    have l2 := pL_pos (u := u) (i := i) o
    have k6 : c.lt + pL u i ≤ 81 * i + 81 := by omega
    have k7 := wd_mono k6
    have h2 : TxOk (pB u c i).x := v.r.tx v.b (n := c.lt + pL u i) (by omega) (by omega) (by omega) (cat_b v.r.hC (pC_b o))
    have o2 : Ok (pB u c i) := v.r.okB h2 (by omega)
    have hc : Iv u (cQ (pB u c i)) (i + 1) false (81 * (i + 1)) (bT (i + 1)) (2 + 3 * (i + 1)) := by
      have e1 : (cQ (pB u c i)).lt = c.lt + pL u i := rfl
      refine ⟨cQ_ok o2, ⟨by omega, ?_, ?_⟩, ⟨fun h => (by cases h), fun h => by omega⟩, fun _ _ => by omega⟩
      · show c.tot + wd (c.lt + pL u i) ≤ _
        omega
      · show c.cnt + 1 ≤ _
        omega
    have G := (g (cQ (pB u c i)) i).1
    refine qa hc ?_
    have hlt : ∀ {b : Bool}, n = b → b = false → 0 < c.lt := fun e1 e2 => Nat.pos_of_ne_zero fun e => by have := v.n.2 e; rw [e1, e2] at this; cases this
    have hk : i % 4 = 0 ∨ i % 4 = 1 ∨ i % 4 = 2 ∨ i % 4 = 3 := by omega
    rcases hk with hk | hk | hk | hk
    · have nm := nmOf (c := c) o (show i % 4 < 2 by omega)
      have e1 : pM u i = IntKind.i32.wrap (u.ns i) := if_pos hk
      have hm : IntKind.i32.wrap ((pB u c i).ns (pB u c i).i) = (pB u c i).m := e1.symm
      have hm2 : IntKind.i32.wrap (pB u c i).m = (pB u c i).m := by
        have h1 := i32_lo (u.ns i)
        show IntKind.i32.wrap (pM u i) = pM u i
        rw [e1]; exact i32_id h1.1 h1.2
      by_cases hd : (pB u c i).m < 0 ∨ 10 ≤ (pB u c i).m
      · cases n with
        | false => exact sB0wf hb o2 hu hk (hlt rfl rfl) nm hd hm hm2 G s
        | true => exact sB0wt hb o2 hu hk (v.n.1 rfl) nm hd hm hm2 G s
      · have hd : 0 ≤ (pB u c i).m ∧ (pB u c i).m < 10 := by omega
        cases n with
        | false => exact sB0ff hb o2 hu hk (hlt rfl rfl) nm hd hm hm2 G s
        | true => exact sB0ft hb o2 hu hk (v.n.1 rfl) nm hd hm hm2 G s
    · have hp : 0 < c.lt := v.q (by omega) (by omega)
      obtain rfl : n = false := by
        cases n with
        | false => rfl
        | true => have := v.n.1 rfl; omega
      have nm := nmOf (c := c) o (show i % 4 < 2 by omega)
      have e1 : pM u i = u.ns i := if_neg (by omega)
      have hm : (pB u c i).ns (pB u c i).i = (pB u c i).m := e1.symm
      by_cases hd : (pB u c i).m < 0 ∨ 10 ≤ (pB u c i).m
      · exact sB1w hb o2 hu hk hp nm hd hm G s
      · exact sB1f hb o2 hu hk hp nm (by omega) hm G s
    · have hp : 0 < c.lt := v.q (by omega) (by omega)
      obtain rfl : n = false := by
        cases n with
        | false => rfl
        | true => have := v.n.1 rfl; omega
      have e1 : pL u i = 1 := by unfold pL; rw [if_neg (by omega), if_pos hk]
      have e2 : pC u i = fun _ => IntKind.u16.wrap (u.ns i) := by unfold pC; rw [if_neg (by omega), if_pos hk]
      exact sB2 hb o2 hu hk hp e1 (by show IntKind.u16.wrap (u.ns i) = pC u i 0; rw [e2]) G s
    · have hp : 0 < c.lt := v.q (by omega) (by omega)
      obtain rfl : n = false := by
        cases n with
        | false => rfl
        | true => have := v.n.1 rfl; omega
      rcases odd_or (u.ns i) with h1 | h1
      · have e1 : pL u i = 5 := by unfold pL; rw [if_neg (by omega), if_neg (by omega), if_neg (by rw [h1]; decide)]
        have e2 : pC u i = chF := by unfold pC; rw [if_neg (by omega), if_neg (by omega), if_neg (by rw [h1]; decide)]
        exact sB3f hb o2 hu hk hp e1 e2 h1 G s
      · have e1 : pL u i = 4 := by unfold pL; rw [if_neg (by omega), if_neg (by omega), if_pos h1]
        have e2 : pC u i = chT := by unfold pC; rw [if_neg (by omega), if_neg (by omega), if_pos h1]
        exact sB3t hb o2 hu hk hp e1 e2 h1 G s
  · refine wp_mono (sN hb hu g s) ?_
    rintro x x1 y1 ⟨rfl, s1⟩
    exact ⟨rfl, c, n, ⟨v.r, ⟨by omega, by omega, by omega⟩, v.n, fun _ q => v.q (by omega) q⟩, s1⟩
/-- what is there when the loop is left -/
def Qd (y z : Bool) (u : Ue) (B : Kp) (w0 : World) (μ : M) (x : Exit) (a : Act) (w : World) : Prop := x = .exit 0 ∧ ∃ c n, Iv u c 8 n 648 1620 26 ∧ SA y z u c 8 n B w0 μ a w
theorem round (hy : y = true → u.lu = 0) (hz : z = true → u.ln = 0) (hb : Base B μ 20000) (o : UOk u) (hi : i < 8) (v : Iv u c i n (81 * i) (bT i) (2 + 3 * i)) (g : Gs u B w0) (s : SA y z u c i n B w0 μ a w) : aL.wp Tryz.prog (fun x a' w' => x = .normal ∧ ∃ c n, Iv u c (i + 1) n (81 * (i + 1)) (bT (i + 1)) (2 + 3 * (i + 1)) ∧ SA y z u c (i + 1) n B w0 μ a' w') a w := by
  rw [aL_eq]
  refine wp_seq (wp_mono (sH hb hi s) ?_)
  rintro x x1 y1 ⟨rfl, s1⟩
  show (Code.seq (.block 1 cB1) cInc).wp _ _ _ _
  refine wp_seq (wp_block ?_)
  rw [cB1_eq]
  refine wp_seq (wp_mono (halfA hy hb o hi v g s1) ?_)
  rintro x x2 y2 ⟨rfl, c2, n2, v2, s2⟩
  show cB.wp _ _ _ _
  refine wp_mono (halfB hz hb o hi v2 g s2) ?_
  rintro x x3 y3 ⟨rfl, c3, n3, v3, s3⟩
  show cInc.wp _ _ _ _
  refine wp_mono (sI hb hi g s3) ?_
  rintro x x4 y4 ⟨rfl, s4⟩
  exact ⟨rfl, c3, n3, v3, s4⟩
theorem leave (hb : Base B μ 20000) (hi : ¬ i < 8) (s : SA y z u c i n B w0 μ a w) : aL.wp Tryz.prog (fun x a' w' => x = .exit 0 ∧ SA y z u c i n B w0 μ a' w') a w := by
  rw [aL_eq]
  refine wp_seq (wp_mono (sX hb hi s) ?_)
  rintro x x1 y1 ⟨rfl, s1⟩
  exact ⟨rfl, s1⟩
theorem loop (hy : y = true → u.lu = 0) (hz : z = true → u.ln = 0) (hb : Base B μ 20000) (o : UOk u) (g : Gs u B w0) : ∀ (j i : Nat) (c : Co) (n : Bool) (a : Act) (w : World), i + j = 9 → i ≤ 8 → Iv u c i n (81 * i) (bT i) (2 + 3 * i) → SA y z u c i n B w0 μ a w → Code.rounds Tryz.prog aL (Qd y z u B w0 μ) j a w
  | 0, i, c, n, a, w, h1, h2, v, s => by omega
  | j + 1, i, c, n, a, w, h1, h2, v, s => by
    by_cases hi : i < 8
    · refine rounds_of (wp_mono (round hy hz hb o hi v g s) ?_)
      rintro x a' w' ⟨rfl, c', n', v', s'⟩
      exact loop hy hz hb o g j (i + 1) c' n' a' w' (by omega) (by omega) v' s'
    · obtain rfl : i = 8 := by omega
      refine rounds_of (wp_mono (leave hb hi s) ?_)
      rintro x a' w' ⟨rfl, s'⟩
      exact ⟨rfl, c, n, v, s'⟩
end
end Go.Proofs.YtkkaifeiopjjdaaGreatDoor.bd
