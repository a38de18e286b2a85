/-
  The machine's two loops within the law TopSieve: what they count, and how many steps they take.
-/
import Derived.Test.YtfkfmjlppllfoaaGreatDoorSVB
import Derived.Test.YtfkfmjlppllfoaaGreatDoorSVT
import Derived.Test.YtfkfmjlppllfoaaGreatDoorSVI
set_option linter.unusedSectionVars false
set_option linter.unusedVariables false
namespace Go.Proofs.YtfkfmjlppllfoaaGreatDoor.sv
open Go.X Go.RowKit Go.Proofs.YtfkfmjlppllfoaaGreatDoor
/-- the bit that the machine reads at a place -/
def zb (W : Nat → BitVec 64) (k : Nat) : Int := IntKind.i64.wrap (wI (W (k / 8) >>> (k % 8 * 8))) % 2
theorem zb_low (W : Nat → BitVec 64) (k : Nat) : zb W k = ((low 8 8 W k).toNat : Int) % 2 := by
  have h1 := wrap_mod .i64 (wI (W (k / 8) >>> (k % 8 * 8)))
  have h2 := low_mod (per := 8) (S := 8) W k
  have e1 : (2 : Int) ^ IntKind.i64.bits = 18446744073709551616 := by decide
  have e2 : (2 : Int) ^ 8 = 256 := by decide
  rw [e1] at h1
  rw [e2] at h2
  unfold zb
  omega
theorem zb_upd (W : Nat → BitVec 64) (j k : Nat) : zb (upd 8 8 W j 1#64) k = if k = j then 1 else zb W k := by
  rw [zb_low, zb_low, low_upd (by decide)]
  by_cases c : k = j
  · rw [if_pos c, if_pos c]; rfl
  · rw [if_neg c, if_neg c]
theorem zb_zero (k : Nat) : zb (fun _ => 0#64) k = 0 := by
  rw [zb_low]
  have : low 8 8 (fun _ => 0#64) k = 0 := by
    unfold low
    simp
  rw [this]; rfl
/-- no number from 2 on below i divides k -/
def free (k i : Nat) : Prop := ∀ d, 2 ≤ d → d < i → k % d ≠ 0
instance (k i : Nat) : Decidable (free k i) := decidable_of_iff (∀ d, d < i → 2 ≤ d → k % d ≠ 0) ⟨fun h d a b => h d b a, fun h d a b => h d b a⟩
/-- so many numbers from 2 on below i that none below divides -/
def pcount : Nat → Nat
  | 0 => 0
  | i + 1 => pcount i + (if 2 ≤ i ∧ free i i then 1 else 0)
theorem pcount_le (i : Nat) : pcount i ≤ i := by
  induction i with
  | zero => exact Nat.le_refl _
  | succ i ih => unfold pcount; split <;> omega
/-- the marks: those that a number below i divides -/
def Mk (n i : Nat) (W : Nat → BitVec 64) : Prop := ∀ k, 2 ≤ k → k ≤ n → (zb W k = 1 ∨ zb W k = 0) ∧ (zb W k = 0 ↔ free k i)
theorem Mk.zero (n : Nat) : Mk n 2 (fun _ => 0#64) := fun k h1 h2 => ⟨.inr (zb_zero k), ⟨fun _ d a b => by omega, fun _ => zb_zero k⟩⟩
theorem Mk.skip {n i : Nat} {W : Nat → BitVec 64} (h : Mk n i W) (h2 : 2 ≤ i) (hc : ¬ free i i) : Mk n (i + 1) W := by
  intro k h3 h4
  obtain ⟨a, b⟩ := h k h3 h4
  refine ⟨a, b.trans ⟨fun f d hd hlt => ?_, fun f d hd hlt => f d hd (by omega)⟩⟩
  by_cases c : d = i
  · subst c
    intro hm
    apply hc
    intro e he hlt2 hm2
    exact f e he hlt2 (Nat.mod_eq_zero_of_dvd (Nat.dvd_trans (Nat.dvd_of_mod_eq_zero hm2) (Nat.dvd_of_mod_eq_zero hm)))
  · exact f d hd (by omega)
/-- within the inner loop: the multiples of i below j are marked too -/
def Mi (n i j : Nat) (W : Nat → BitVec 64) : Prop := ∀ k, 2 ≤ k → k ≤ n → (zb W k = 1 ∨ zb W k = 0) ∧ (zb W k = 0 ↔ (free k i ∧ ¬ (k % i = 0 ∧ k < j)))
theorem Mi.start {n i : Nat} {W : Nat → BitVec 64} (h : Mk n i W) (h2 : 2 ≤ i) : Mi n i i W := by
  intro k h3 h4
  obtain ⟨a, b⟩ := h k h3 h4
  refine ⟨a, b.trans ⟨fun f => ⟨f, fun ⟨x, y⟩ => ?_⟩, fun f => f.1⟩⟩
  rw [Nat.mod_eq_of_lt y] at x
  omega
theorem Mi.step {n i q : Nat} {W : Nat → BitVec 64} (h : Mi n i (i * q) W) (h2 : 2 ≤ i) : Mi n i (i * (q + 1)) (upd 8 8 W (i * q) 1#64) := by
  intro k h3 h4
  obtain ⟨a, b⟩ := h k h3 h4
  rw [zb_upd]
  by_cases c : k = i * q
  · rw [if_pos c]
    refine ⟨.inl rfl, ⟨fun h => by omega, fun f => absurd ⟨?_, ?_⟩ f.2⟩⟩
    · rw [c]; exact Nat.mul_mod_right i q
    · rw [c, Nat.mul_succ]; omega
  · rw [if_neg c]
    refine ⟨a, b.trans ⟨fun f => ⟨f.1, fun ⟨x, y⟩ => f.2 ⟨x, ?_⟩⟩, fun f => ⟨f.1, fun ⟨x, y⟩ => f.2 ⟨x, by rw [Nat.mul_succ]; omega⟩⟩⟩⟩
    obtain ⟨e, rfl⟩ := Nat.dvd_of_mod_eq_zero x
    have h5 : e < q + 1 := Nat.lt_of_mul_lt_mul_left y
    have h6 : e ≠ q := fun h => c (by rw [h])
    exact Nat.mul_lt_mul_of_pos_left (by omega) (by omega)
theorem Mi.done {n i j : Nat} {W : Nat → BitVec 64} (h : Mi n i j W) (h2 : 2 ≤ i) (hj : n < j) : Mk n (i + 1) W := by
  intro k h3 h4
  obtain ⟨a, b⟩ := h k h3 h4
  refine ⟨a, b.trans ⟨fun f d hd hlt => ?_, fun f => ⟨fun d hd hlt => f d hd (by omega), fun x => f i h2 (by omega) x.1⟩⟩⟩
  by_cases c : d = i
  · subst c
    intro hm
    exact f.2 ⟨hm, by omega⟩
  · exact f.1 d hd (by omega)
/-- so many steps from the outer loop's head on -/
def tO (n : Nat) : Nat → Nat → Nat
  | 0, _ => 0
  | m + 1, i => (if free i i then 15 + 12 * (n / i) else 9) + tO n m (i + 1)
def bd : Nat → Nat
  | 0 => 0
  | m + 1 => bd m + (15 + 12 * (399 / (400 - (m + 1))))
theorem tO_le (n : Nat) (hn : n < 400) : ∀ (m i : Nat), 2 ≤ i → m = n + 1 - i → tO n m i ≤ bd (400 - i)
  | 0, _, _, _ => Nat.zero_le _
  | m + 1, i, h2, h => by
    have ih := tO_le n hn m (i + 1) (by omega) (by omega)
    obtain ⟨e, he⟩ : ∃ e, 400 - i = e + 1 := ⟨399 - i, by omega⟩
    have e1 : 400 - (i + 1) = e := by omega
    have e2 : 400 - (e + 1) = i := by omega
    have h3 : n / i ≤ 399 / i := Nat.div_le_div_right (by omega)
    rw [e1] at ih
    rw [he]
    unfold tO bd
    rw [e2]
    split <;> omega
theorem bd_mono : ∀ {a b : Nat}, a ≤ b → bd a ≤ bd b
  | a, 0, h => by rw [Nat.le_zero.1 h]; exact Nat.le_refl _
  | a, b + 1, h => by
    by_cases c : a = b + 1
    · rw [c]; exact Nat.le_refl _
    · exact Nat.le_trans (bd_mono (by omega : a ≤ b)) (by show bd b ≤ bd b + _; omega)
theorem bd_top : 13 + bd (400 - 2) < 90000 := by decide +kernel
section
variable {B : Kp} {w0 : World} {μ : M}
theorem inner {n i c : Nat} (hn : n < 400) (h2 : 2 ≤ i) (hin : i ≤ n) (hc : c ≤ 1000) (hb : Base B μ 20000) {Q : Exit → Act → World → Prop} {j0 : Nat} : ∀ (m q r : Nat) (W : Nat → BitVec 64) (a : Act) (w : World), q + m = n / i + 1 → 1 ≤ q → r + 12 * m < 90000 → Mi n i (i * q) W → SI n i (i * q) c r W B w0 μ a w →
    (∀ (j : Nat) (W' : Nat → BitVec 64) (a' : Act) (w' : World), j ≤ 1000 → Mk n (i + 1) W' → ST n (i + 1) j c (r + (12 * m + 5)) W' B w0 μ a' w' → Code.rounds Tryz.prog la Q j0 a' w') → Code.rounds Tryz.prog la Q (j0 + (12 * m + 5)) a w
  | 0, q, r, W, a, w, e, h1, hr, hm, s, k => by
    have e1 : q = n / i + 1 := by omega
    have h4 : n < i * q := by rw [e1]; exact Nat.lt_mul_div_succ n (by omega)
    have h5 : i * q ≤ 1000 := by
      rw [e1, Nat.mul_succ]
      have := Nat.mul_div_le n i
      omega
    exact goJ hn h4 h2 hc (by omega) hin h5 hb s fun a' w' s' => k _ _ a' w' h5 (hm.done h2 h4) s'
  | m + 1, q, r, W, a, w, e, h1, hr, hm, s, k => by
    have h4 : i * q ≤ n := by
      have h6 : q ≤ n / i := by omega
      exact Nat.le_trans (Nat.mul_le_mul_left i h6) (Nat.mul_div_le n i)
    have h7 : 2 ≤ i * q := Nat.le_trans h2 (by simpa using Nat.mul_le_mul_left i h1)
    have ez : j0 + (12 * (m + 1) + 5) = (j0 + (12 * m + 5)) + 12 := by omega
    rw [ez]
    refine goI hn h4 h2 hc (by omega) hin h7 hb s fun a' w' s' => ?_
    rw [show i * q + i = i * (q + 1) from (Nat.mul_succ i q).symm] at s'
    refine inner hn h2 hin hc hb m (q + 1) (r + 12) _ a' w' (by omega) (by omega) (by omega) (hm.step h2) s' fun j W' a2 w2 x1 x2 s2 => ?_
    rw [show r + 12 + (12 * m + 5) = r + (12 * (m + 1) + 5) by omega] at s2
    exact k j W' a2 w2 x1 x2 s2
theorem outer {n : Nat} (hn : n < 400) (hb : Base B μ 20000) {Q : Exit → Act → World → Prop} {j0 : Nat} : ∀ (m i j r : Nat) (W : Nat → BitVec 64) (a : Act) (w : World), m = n + 1 - i → 2 ≤ i → i ≤ 400 → j ≤ 1000 → r + bd (400 - i) < 90000 → Mk n i W → ST n i j (pcount i) r W B w0 μ a w →
    (∀ (i' j' c' : Nat) (W' : Nat → BitVec 64) (a' : Act) (w' : World), n < i' → i' ≤ 400 → j' ≤ 1000 → c' = pcount (max i (n + 1)) → ST n i' j' c' (r + tO n m i) W' B w0 μ a' w' → Code.rounds Tryz.prog la Q j0 a' w') → Code.rounds Tryz.prog la Q (j0 + tO n m i) a w
  | 0, i, j, r, W, a, w, e, h2, h4, hj, hr, hm, s, k => by
    exact k i j (pcount i) W a w (by omega) h4 hj (by rw [show max i (n + 1) = i by omega]) s
  | m + 1, i, j, r, W, a, w, e, h2, h4, hj, hr, hm, s, k => by
    have hin : i ≤ n := by omega
    have hp := pcount_le i
    obtain ⟨x, hx⟩ : ∃ x, 400 - i = x + 1 := ⟨399 - i, by omega⟩
    have e1 : 400 - (i + 1) = x := by omega
    have e2 : 400 - (x + 1) = i := by omega
    have hdv : n / i ≤ 399 / i := Nat.div_le_div_right (by omega)
    rw [hx] at hr
    unfold bd at hr
    rw [e2] at hr
    have mx : max i (n + 1) = max (i + 1) (n + 1) := by omega
    obtain ⟨z1, z2⟩ := hm i h2 hin
    by_cases c : free i i
    · have hz : zb W i = 0 := z2.2 c
      have ht : tO n (m + 1) i = (15 + 12 * (n / i)) + tO n m (i + 1) := by show (if free i i then _ else _) + _ = _; rw [if_pos c]
      have hpc : pcount (i + 1) = pcount i + 1 := by show pcount i + (if 2 ≤ i ∧ free i i then 1 else 0) = _; rw [if_pos ⟨h2, c⟩]
      have ez : j0 + tO n (m + 1) i = ((j0 + tO n m (i + 1)) + (12 * (n / i) + 5)) + 10 := by rw [ht]; omega
      rw [ez]
      refine goP hn hin h2 (by omega) (by omega) hj hz hb s fun a1 w1 s1 => ?_
      have hi1 := Mi.start hm h2
      have ei : i = i * 1 := (Nat.mul_one i).symm
      have s1' : SI n i (i * 1) (pcount i + 1) (r + 10) W B w0 μ a1 w1 := by rw [← ei]; exact s1
      have hi1' : Mi n i (i * 1) W := by rw [← ei]; exact hi1
      refine inner hn h2 hin (by omega) hb (n / i) 1 (r + 10) W a1 w1 (by omega) (by omega) (by omega) hi1' s1' fun j' W' a2 w2 x1 x2 s2 => ?_
      rw [← hpc] at s2
      refine outer hn hb m (i + 1) j' (r + 10 + (12 * (n / i) + 5)) W' a2 w2 (by omega) (by omega) (by omega) x1 (by rw [e1]; omega) x2 s2 fun i' j2 c' W2 a3 w3 y1 y2 y3 y4 s3 => ?_
      rw [show r + 10 + (12 * (n / i) + 5) + tO n m (i + 1) = r + tO n (m + 1) i by rw [ht]; omega] at s3
      exact k i' j2 c' W2 a3 w3 y1 y2 y3 (by rw [mx]; exact y4) s3
    · have hz : zb W i = 1 := by
        rcases z1 with h | h
        · exact h
        · exact absurd (z2.1 h) c
      have ht : tO n (m + 1) i = 9 + tO n m (i + 1) := by show (if free i i then _ else _) + _ = _; rw [if_neg c]
      have hpc : pcount (i + 1) = pcount i := by show pcount i + (if 2 ≤ i ∧ free i i then 1 else 0) = _; rw [if_neg (fun h => c h.2)]; rfl
      have ez : j0 + tO n (m + 1) i = (j0 + tO n m (i + 1)) + 9 := by rw [ht]; omega
      rw [ez]
      refine goC hn hin h2 (by omega) (by omega) hj hz hb s fun a1 w1 s1 => ?_
      rw [← hpc] at s1
      refine outer hn hb m (i + 1) j (r + 9) W a1 w1 (by omega) (by omega) (by omega) hj (by rw [e1]; omega) (hm.skip h2 c) s1 fun i' j2 c' W2 a3 w3 y1 y2 y3 y4 s3 => ?_
      rw [show r + 9 + tO n m (i + 1) = r + tO n (m + 1) i by rw [ht]; omega] at s3
      exact k i' j2 c' W2 a3 w3 y1 y2 y3 (by rw [mx]; exact y4) s3
/-- all of the machine's run, ahead of its last steps -/
theorem runS {n : Nat} (hn : n < 400) (hb : Base B μ 20000) {Q : Exit → Act → World → Prop} {j0 : Nat} {a : Act} {w : World} (s : SB n B w0 μ a w)
    (k : ∀ (i' j' c' r' : Nat) (W' : Nat → BitVec 64) (a' : Act) (w' : World), n < i' → i' ≤ 400 → j' ≤ 1000 → c' = pcount (max 2 (n + 1)) → r' = 13 + tO n (n - 1) 2 → ST n i' j' c' r' W' B w0 μ a' w' → Code.rounds Tryz.prog la Q j0 a' w') :
    Code.rounds Tryz.prog la Q (((j0 + tO n (n - 1) 2) + 4) + 9) a w := by
  refine goB hn hb s fun a1 w1 s1 => goN hn hb s1 fun a2 w2 s2 => ?_
  have h0 : pcount 2 = 0 := rfl
  refine outer hn hb (n - 1) 2 0 13 _ a2 w2 (by omega) (by omega) (by omega) (by omega) bd_top (Mk.zero n) (by rw [h0]; exact s2) fun i' j' c' W' a3 w3 x1 x2 x3 x4 s3 => k i' j' c' _ W' a3 w3 x1 x2 x3 x4 rfl s3
end
end Go.Proofs.YtfkfmjlppllfoaaGreatDoor.sv
