/-
  The machine's loops within the law TopMatrix: what they do, and how many steps they take.
-/
import Derived.Test.YthgncmohimdbmaaGreatDoorMXM
import Derived.Test.YthgncmohimdbmaaGreatDoorMXR
import Derived.Test.YthgncmohimdbmaaGreatDoorMXC
import Derived.Test.YthgncmohimdbmaaGreatDoorMXD
import Derived.Test.YthgncmohimdbmaaGreatDoorMXE
import Derived.Test.YthgncmohimdbmaaGreatDoorMXA
import Derived.Test.YthgncmohimdbmaaGreatDoorXN3
import Derived.Test.YthgncmohimdbmaaGreatDoorMBM
import Derived.Test.YthgncmohimdbmaaGreatDoorProg
import Derived.KernelRfl
set_option linter.unusedSectionVars false
set_option linter.unusedVariables false
set_option maxRecDepth 1000000
set_option maxHeartbeats 0
namespace Go.Proofs.YthgncmohimdbmaaGreatDoor.mx
open Go.X Go.RowKit Go.Proofs.YthgncmohimdbmaaGreatDoor
/-- where a row begins, counted from the first array's words on -/
def uu (n m i : Nat) : Nat := n + i * sw m
theorem en_uu (n m i : Nat) : en n m i = 11 + uu n m i := by unfold en uu; omega
theorem uuS (n m i : Nat) : uu n m (i + 1) = uu n m i + sw m := by unfold uu; rw [Nat.succ_mul]; omega
theorem uu_add (n m : Nat) : ∀ d i, uu n m i + d * sw m = uu n m (i + d)
  | 0, i => by simp
  | d + 1, i => by rw [← Nat.add_assoc, uuS, ← uu_add n m d i, Nat.succ_mul]; omega
theorem uu_lt {n m i k : Nat} (h : i < k) : uu n m i + sw m ≤ uu n m k := by
  have e := uu_add n m (k - i - 1) (i + 1)
  rw [show i + 1 + (k - i - 1) = k by omega, uuS] at e
  omega
theorem uu_lo (n m i : Nat) : n ≤ uu n m i := by unfold uu; omega
theorem uu_hi {n m i : Nat} (hn : n < 20) (hm : m < 20) (hi : i ≤ n) : uu n m i < 389 := by
  have := en_hi hn hm hi
  rw [en_uu] at this
  omega
def rd (W : Nat → BitVec 64) (k : Nat) : Int := IntKind.i32.wrap (wI (W (k / 2) >>> (k % 2 * 32)))
theorem rd_low (W : Nat → BitVec 64) (k : Nat) : rd W k = if 2147483648 ≤ ((low 2 32 W k).toNat : Int) then ((low 2 32 W k).toNat : Int) - 4294967296 else ((low 2 32 W k).toNat : Int) := by
  unfold rd
  rw [wrap32_eq]
  have h := low_mod (per := 2) (S := 32) W k
  have e : (2 : Int) ^ 32 = 4294967296 := by decide
  rw [e] at h
  rw [h]
theorem rd_upd (W : Nat → BitVec 64) (j k : Nat) (x : Int) (h0 : 0 ≤ x) (h1 : x < 1009) : rd (upd 2 32 W j (BitVec.ofInt 64 x)) k = if k = j then x else rd W k := by
  rw [rd_low, rd_low, low_upd (by decide)]
  by_cases c : k = j
  · rw [if_pos c, if_pos c]
    have e : ((BitVec.ofInt 64 x).setWidth 32).toNat = x.toNat := by
      rw [BitVec.toNat_setWidth, BitVec.toNat_ofInt]
      omega
    rw [e, if_neg (by omega)]
    omega
  · rw [if_neg c, if_neg c]
theorem upd_is (W : Nat → BitVec 64) (u j : Nat) (x : BitVec 64) : updQ W (u + j / 2 + 3) (j % 2 * 32) x = upd 2 32 W (2 * (u + 3) + j) x := by
  have e1 : (2 * (u + 3) + j) / 2 = u + j / 2 + 3 := by omega
  have e2 : (2 * (u + 3) + j) % 2 = j % 2 := by omega
  unfold updQ upd
  rw [e1, e2]
  funext q
  by_cases c : q = u + j / 2 + 3
  · rw [if_pos c, if_pos c, c]
  · rw [if_neg c, if_neg c]
theorem updQ_rd (W : Nat → BitVec 64) (u j x : Nat) (hx : x < 400) : IntKind.i32.wrap (wI (updQ W (u + j / 2 + 3) (j % 2 * 32) (BitVec.ofInt 64 (x : Int)) (u + j / 2 + 3) >>> (j % 2 * 32))) = Nat.cast x := by
  have h := rd_upd W (2 * (u + 3) + j) (2 * (u + 3) + j) (x : Int) (by omega) (by omega)
  rw [if_pos rfl, ← upd_is] at h
  unfold rd at h
  rw [show (2 * (u + 3) + j) / 2 = u + j / 2 + 3 by omega, show (2 * (u + 3) + j) % 2 = j % 2 by omega] at h
  exact h
/-- the rows' addresses, and what stands ahead of each row's numbers -/
structure Good (n m : Nat) (W : Nat → BitVec 64) : Prop where
  ref : ∀ i, i < n → wI (W i) = ((12 + uu n m i : Nat) : Int)
  shp : ∀ i, i < n → wI (W (uu n m i)) = 4
  len : ∀ i, i < n → wI (W (uu n m i + 2)) = Nat.cast m
theorem Good.upd {n m i j : Nat} {W : Nat → BitVec 64} (g : Good n m W) (hi : i < n) (hj : j < m) (x : BitVec 64) : Good n m (updQ W (uu n m i + j / 2 + 3) (j % 2 * 32) x) := by
  have h1 : j / 2 + 3 < sw m := by unfold sw; omega
  have hlo := uu_lo n m i
  have key : ∀ q, q ≠ uu n m i + j / 2 + 3 → updQ W (uu n m i + j / 2 + 3) (j % 2 * 32) x q = W q := fun q hq => if_neg hq
  have sep : ∀ k, k < n → uu n m k ≠ uu n m i + j / 2 + 3 ∧ uu n m k + 2 ≠ uu n m i + j / 2 + 3 := by
    intro k hk
    rcases Nat.lt_trichotomy k i with c | c | c
    · have := uu_lt (n := n) (m := m) c
      have : 3 ≤ sw m := by unfold sw; omega
      omega
    · subst c; omega
    · have := uu_lt (n := n) (m := m) c
      omega
  exact ⟨fun k hk => by rw [key k (by omega)]; exact g.ref k hk, fun k hk => by rw [key _ (sep k hk).1]; exact g.shp k hk, fun k hk => by rw [key _ (sep k hk).2]; exact g.len k hk⟩
theorem en_lt {n m r k : Nat} (h : r < k) : en n m r + 3 ≤ en n m k := by
  have := uu_lt (n := n) (m := m) h
  have : 3 ≤ sw m := by unfold sw; omega
  rw [en_uu, en_uu]
  omega
theorem wp_ref {n m : Nat} : ∀ k, k ≤ n → ∀ r, r < k → wp n m k (3 + r) = xw n m r
  | 0, _, r, h => by omega
  | k + 1, hk, r, h => by
    have h1 := en_lo n m k
    show (if 3 + r = 3 + k then _ else if 3 + r = en n m k - 6 then _ else if 3 + r = en n m k - 8 then _ else _) = _
    by_cases c : r = k
    · subst c; rw [if_pos rfl]
    · rw [if_neg (by omega), if_neg (by omega), if_neg (by omega)]
      exact wp_ref k (by omega) r (by omega)
theorem wp_shp {n m : Nat} : ∀ k, k ≤ n → ∀ r, r < k → wp n m k (en n m r - 8) = 4#64
  | 0, _, r, h => by omega
  | k + 1, hk, r, h => by
    have h1 := en_lo n m r
    show (if en n m r - 8 = 3 + k then _ else if en n m r - 8 = en n m k - 6 then _ else if en n m r - 8 = en n m k - 8 then _ else _) = _
    by_cases c : r = k
    · subst c; rw [if_neg (by omega), if_neg (by omega), if_pos rfl]
    · have h2 := en_lt (n := n) (m := m) (show r < k by omega)
      rw [if_neg (by omega), if_neg (by omega), if_neg (by omega)]
      exact wp_shp k (by omega) r (by omega)
theorem wp_len {n m : Nat} : ∀ k, k ≤ n → ∀ r, r < k → wp n m k (en n m r - 6) = BitVec.ofNat 64 m
  | 0, _, r, h => by omega
  | k + 1, hk, r, h => by
    have h1 := en_lo n m r
    show (if en n m r - 6 = 3 + k then _ else if en n m r - 6 = en n m k - 6 then _ else if en n m r - 6 = en n m k - 8 then _ else _) = _
    by_cases c : r = k
    · subst c; rw [if_neg (by omega), if_pos rfl]
    · have h2 := en_lt (n := n) (m := m) (show r < k by omega)
      rw [if_neg (by omega), if_neg (by omega), if_neg (by omega)]
      exact wp_len k (by omega) r (by omega)
theorem good0 {n m : Nat} (hn : n < 20) (hm : m < 20) : Good n m (fun q => wp n m n (q + 3)) := by
  refine ⟨fun i hi => ?_, fun i hi => ?_, fun i hi => ?_⟩
  · have h2 := en_hi hn hm (show i ≤ n by omega)
    show wI (wp n m n (i + 3)) = _
    rw [Nat.add_comm, wp_ref n (Nat.le_refl _) i hi, xw_eq, wI_ofNat (by omega), en_uu]
    congr 1
    omega
  · show wI (wp n m n (uu n m i + 3)) = _
    rw [show uu n m i + 3 = en n m i - 8 by rw [en_uu]; omega, wp_shp n (Nat.le_refl _) i hi]
    rfl
  · show wI (wp n m n (uu n m i + 2 + 3)) = _
    rw [show uu n m i + 2 + 3 = en n m i - 6 by rw [en_uu]; omega, wp_len n (Nat.le_refl _) i hi, wI_ofNat (by omega)]
abbrev ff (n m : Nat) : Nat → Int := fun q => fb n m (q + 1)
theorem inc0 (n m : Nat) : IncF n (ff n m) := by
  refine ⟨fun i _ => ?_, fun i k h _ => ?_⟩
  · have := en_lo n m i
    show (8 : Int) < ((en n m i : Nat) : Int)
    omega
  · have := en_lt (n := n) (m := m) h
    show ((en n m i : Nat) : Int) < ((en n m k : Nat) : Int)
    omega
/-- sums -/
def sI (i : Nat) : Nat → Nat
  | 0 => 0
  | j + 1 => sI i j + (i + 1) * j
def sO (m : Nat) : Nat → Nat
  | 0 => 0
  | i + 1 => sO m i + sI i m
theorem mul_bd {i j : Nat} (hi : i < 20) (hj : j < 20) : (i + 1) * j < 400 := by
  have := Nat.mul_le_mul (show i + 1 ≤ 20 by omega) (show j ≤ 19 by omega)
  omega
theorem sI_bd {i : Nat} (hi : i < 20) : ∀ j, j ≤ 20 → sI i j ≤ 400 * j
  | 0, _ => Nat.le_refl _
  | j + 1, h => by
    have h1 := sI_bd hi j (by omega)
    have h2 := mul_bd hi (show j < 20 by omega)
    show sI i j + (i + 1) * j ≤ _
    omega
theorem sO_bd {m : Nat} (hm : m < 20) : ∀ i, i ≤ 20 → sO m i ≤ 8000 * i
  | 0, _ => Nat.le_refl _
  | i + 1, h => by
    have h1 := sO_bd hm i (by omega)
    have h2 := sI_bd (show i < 20 by omega) m (by omega)
    show sO m i + sI i m ≤ _
    omega
section
variable {B : Kp} {w0 : World} {μ : M}
theorem rowR {n m i : Nat} (hn : n < 20) (hm : m < 20) (hi : i < n) (hb : Base B μ 20000) {Q : Exit → Act → World → Prop} {j0 : Nat} : ∀ (d j s r x : Nat) (W : Nat → BitVec 64) (a : Act) (w : World), d + j = m → s + 400 * d ≤ 390000 → r + 23 * d + 40 < 90000 → Good n m W → x = (i + 1) * j → SC n m i j s r (uu n m n) (uu n m i) x W (ff n m) B w0 μ a w →
    (∀ (s' : Nat) (W' : Nat → BitVec 64) (a' : Act) (w' : World), s' + sI i j = s + sI i m → Good n m W' → SR n m (i + 1) m s' (r + (23 * d + 5)) (uu n m n) W' (ff n m) B w0 μ a' w' → Code.rounds Tryz.prog la Q j0 a' w') → Code.rounds Tryz.prog la Q (j0 + (23 * d + 5)) a w
  | 0, j, s, r, x, W, a, w, e, hs, hr, g, hx, s_, k => by
    obtain rfl : j = m := by omega
    have ht := uu_hi hn hm (Nat.le_refl n)
    exact goE hn hm (by omega) hi (by omega) (by omega) (Nat.le_refl _) (by omega) hb s_ fun a' w' s' => k s W a' w' rfl g s'
  | d + 1, j, s, r, x, W, a, w, e, hs, hr, g, hx, s_, k => by
    have hj : j < m := by omega
    have ht := uu_hi hn hm (Nat.le_refl n)
    have hu := uu_hi hn hm (show i ≤ n by omega)
    have hlo := uu_lo n m i
    have hl := uu_lt (n := n) (m := m) hi
    have hq : j / 2 + 3 < sw m := by unfold sw; omega
    have hb2 := mul_bd (show i < 20 by omega) (show j < 20 by omega)
    have fw := g.ref i hi
    have fs := g.shp i hi
    have fm := g.len i hi
    have fF : ff n m i = ((11 + uu n m i : Nat) : Int) := by show ((en n m i : Nat) : Int) = _; rw [en_uu]
    have hx2 : ((i + 1 : Nat) : Int) * (Nat.cast j) = Nat.cast x := by rw [hx, Int.natCast_mul]
    rw [show j0 + (23 * (d + 1) + 5) = (j0 + (23 * d + 5)) + 10 + 13 by omega]
    refine goC hn hm (by omega) hi (by omega) (by omega) hj (by omega) fw fs fm fF (inc0 n m) (by omega) (by omega) (by omega) hx2 hb s_ fun a1 w1 s1 => ?_
    have g1 := g.upd hi hj (BitVec.ofInt 64 (x : Int))
    refine goD (x2 := (i + 1) * (j + 1)) hn hm (by omega) hi (by omega) (by omega) hj (by omega) (g1.ref i hi) (g1.shp i hi) (g1.len i hi) fF (inc0 n m) (by omega) (by omega) (by omega) (updQ_rd W (uu n m i) j x (by omega)) hb s1 fun a2 w2 s2 => ?_
    refine rowR hn hm hi hb d (j + 1) (s + x) (r + 13 + 10) ((i + 1) * (j + 1)) _ a2 w2 (by omega) (by omega) (by omega) g1 rfl s2 fun s' W' a' w' x1 x2 x3 => ?_
    refine k s' W' a' w' ?_ x2 ?_
    · have e3 : sI i (j + 1) = sI i j + (i + 1) * j := rfl
      omega
    · rw [show r + 13 + 10 + (23 * d + 5) = r + (23 * (d + 1) + 5) by omega] at x3
      exact x3
theorem rowsR {n m : Nat} (hn : n < 20) (hm : m < 20) (hb : Base B μ 20000) {Q : Exit → Act → World → Prop} {j0 : Nat} : ∀ (d i j r : Nat) (W : Nat → BitVec 64) (a : Act) (w : World), d + i = n → j ≤ 20 → r + 500 * d + 40 < 90000 → Good n m W → SR n m i j (sO m i) r (uu n m n) W (ff n m) B w0 μ a w →
    (∀ (j' : Nat) (W' : Nat → BitVec 64) (a' : Act) (w' : World), j' ≤ 20 → SR n m n j' (sO m n) (r + d * (23 * m + 10)) (uu n m n) W' (ff n m) B w0 μ a' w' → Code.rounds Tryz.prog la Q j0 a' w') → Code.rounds Tryz.prog la Q (j0 + d * (23 * m + 10)) a w
  | 0, i, j, r, W, a, w, e, hj, hr, g, s_, k => by
    obtain rfl : i = n := by omega
    rw [Nat.zero_mul] at k ⊢
    exact k j W a w hj s_
  | d + 1, i, j, r, W, a, w, e, hj, hr, g, s_, k => by
    have hi : i < n := by omega
    have ht := uu_hi hn hm (Nat.le_refl n)
    have hs := sO_bd hm i (by omega)
    have hI : sI i m ≤ 8000 := by have := sI_bd (show i < 20 by omega) m (by omega); omega
    have hs2 : sO m i ≤ 8000 * i := hs
    have hd : d * (23 * m + 10) ≤ d * 450 := Nat.mul_le_mul_left _ (by omega)
    rw [show j0 + (d + 1) * (23 * m + 10) = (j0 + d * (23 * m + 10)) + (23 * m + 5) + 5 by rw [Nat.succ_mul d (23 * m + 10)]; omega]
    refine goR (u := uu n m i) (x := (i + 1) * 0) hn hm (by omega) (by omega) (by omega) (by omega) hj hi hb s_ fun a1 w1 s1 => ?_
    refine rowR hn hm hi hb m 0 (sO m i) (r + 5) ((i + 1) * 0) W a1 w1 (by omega) (by omega) (by omega) g rfl s1 fun s' W' a' w' x1 x2 x3 => ?_
    obtain rfl : s' = sO m (i + 1) := by
      have e1 : sO m (i + 1) = sO m i + sI i m := rfl
      have e2 : sI i 0 = 0 := rfl
      omega
    refine rowsR hn hm hb d (i + 1) m (r + 5 + (23 * m + 5)) W' a' w' (by omega) (by omega) (by omega) x2 x3 fun j' W'' a2 w2 y1 y2 => k j' W'' a2 w2 y1 ?_
    rw [show r + 5 + (23 * m + 5) + d * (23 * m + 10) = r + (d + 1) * (23 * m + 10) by rw [Nat.succ_mul d (23 * m + 10)]; omega] at y2
    exact y2
end
end Go.Proofs.YthgncmohimdbmaaGreatDoor.mx
