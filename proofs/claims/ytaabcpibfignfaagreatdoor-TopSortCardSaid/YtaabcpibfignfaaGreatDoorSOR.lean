/-
  The machine's loops within the law TopSort: what they do, and how many steps they take.
-/
import Derived.Test.YtaabcpibfignfaaGreatDoorSOB
import Derived.Test.YtaabcpibfignfaaGreatDoorSOF
import Derived.Test.YtaabcpibfignfaaGreatDoorSOG
import Derived.Test.YtaabcpibfignfaaGreatDoorSOO
import Derived.Test.YtaabcpibfignfaaGreatDoorSOI
import Derived.Test.YtaabcpibfignfaaGreatDoorSOI1
import Derived.Test.YtaabcpibfignfaaGreatDoorSOI2
import Derived.Test.YtaabcpibfignfaaGreatDoorSOX
import Derived.Test.YtaabcpibfignfaaGreatDoorSOZ
import Derived.Test.YtaabcpibfignfaaGreatDoorSOU
import Derived.Test.YtaabcpibfignfaaGreatDoorSOP
set_option linter.unusedSectionVars false
set_option linter.unusedVariables false
namespace Go.Proofs.YtaabcpibfignfaaGreatDoor.so
open Go.X Go.RowKit Go.Proofs.YtaabcpibfignfaaGreatDoor
theorem rd_low (W : Nat → BitVec 64) (k : Nat) : rd W k = if 2147483648 ≤ ((low 2 32 W k).toNat : Int) then ((low 2 32 W k).toNat : Int) - 4294967296 else ((low 2 32 W k).toNat : Int) := by
  unfold rd
  rw [wrap32_eq]
  have h := low_mod (per := 2) (S := 32) W k
  have e : (2 : Int) ^ 32 = 4294967296 := by decide
  rw [e] at h
  rw [h]
theorem rd_upd (W : Nat → BitVec 64) (j k : Nat) (x : Int) (h0 : 0 ≤ x) (h1 : x < 1009) : rd (upd 2 32 W j (BitVec.ofInt 64 x)) k = if k = j then x else rd W k := by
  rw [rd_low, rd_low, low_upd (by decide)]
  by_cases c : k = j
  · rw [if_pos c, if_pos c]
    have e : ((BitVec.ofInt 64 x).setWidth 32).toNat = x.toNat := by
      rw [BitVec.toNat_setWidth, BitVec.toNat_ofInt]
      omega
    rw [e, if_neg (by omega)]
    omega
  · rw [if_neg c, if_neg c]
theorem rd_zero (k : Nat) : rd (fun _ => 0#64) k = 0 := by
  rw [rd_low]
  have : low 2 32 (fun _ => 0#64) k = 0 := by unfold low; simp
  rw [this]; rfl
theorem wr_lo (x : Int) : -2147483648 ≤ wr x := by unfold wr; rw [wrap32_eq]; split <;> omega
theorem wr_hi (x : Int) : wr x ≤ 2147483647 := by unfold wr; rw [wrap32_eq]; split <;> omega
/-- the array holds these numbers -/
def Ar (n : Nat) (W : Nat → BitVec 64) (A : Nat → Nat) : Prop := ∀ k, k < n → rd W k = A k ∧ A k < 1009
theorem Ar.put {n j x : Nat} {W : Nat → BitVec 64} {A : Nat → Nat} (h : Ar n W A) (hx : x < 1009) : Ar n (upd 2 32 W j (BitVec.ofInt 64 (x : Int))) (put A j x) := by
  intro k hk
  rw [rd_upd W j k x (by omega) (by omega)]
  unfold so.put
  split
  · exact ⟨rfl, hx⟩
  · exact h k hk
theorem Ar.swp {n j : Nat} {W : Nat → BitVec 64} {A : Nat → Nat} (h : Ar n W A) (hj : j + 1 < n) : Ar n (upd 2 32 (upd 2 32 W j (BitVec.ofInt 64 (rd W (j + 1)))) (j + 1) (BitVec.ofInt 64 ((rd W j).toNat : Int))) (swp A j) := by
  obtain ⟨a1, a2⟩ := h j (by omega)
  obtain ⟨b1, b2⟩ := h (j + 1) hj
  intro k hk
  rw [rd_upd _ (j + 1) k _ (by omega) (by omega), rd_upd _ j k _ (by omega) (by omega)]
  unfold so.swp
  by_cases c : k = j
  · rw [if_neg (by omega), if_pos c, if_pos c]
    exact ⟨b1, b2⟩
  · by_cases d : k = j + 1
    · rw [if_pos d, if_neg c, if_pos d]
      exact ⟨by omega, a2⟩
    · rw [if_neg d, if_neg c, if_neg c, if_neg d]
      exact h k hk
def sm (A : Nat → Nat) : Nat → Int
  | 0 => 0
  | k + 1 => wr (wr (sm A k * 7) + A k)
theorem sm_lo (A : Nat → Nat) : ∀ k, -2147483648 ≤ sm A k
  | 0 => show (-2147483648 : Int) ≤ 0 by decide
  | _ + 1 => wr_lo _
theorem sm_hi (A : Nat → Nat) : ∀ k, sm A k ≤ 2147483647
  | 0 => show (0 : Int) ≤ 2147483647 by decide
  | _ + 1 => wr_hi _
theorem sm_congr {A B : Nat → Nat} : ∀ {n : Nat} (_ : ∀ k, k < n → A k = B k), sm A n = sm B n
  | 0, _ => rfl
  | n + 1, h => by
    show wr (wr (sm A n * 7) + A n) = wr (wr (sm B n * 7) + B n)
    rw [sm_congr fun k hk => h k (by omega), h n (by omega)]
section
variable {B : Kp} {w0 : World} {μ : M}
theorem fill {n s : Nat} (hn : n < 25) (hs : s < 1009) (hb : Base B μ 20000) {Q : Exit → Act → World → Prop} {j0 : Nat} : ∀ (m i r : Nat) (W : Nat → BitVec 64) (a : Act) (w : World), m = n - i → i ≤ n → r + 17 * m + 20 < 90000 → Ar i W (fun k => gs s (k + 1)) → SF n (gs s i) i r W B w0 μ a w →
    (∀ (W' : Nat → BitVec 64) (a' : Act) (w' : World), Ar n W' (fun k => gs s (k + 1)) → SO n (gs s n) n 0 (r + 17 * m + 3) W' B w0 μ a' w' → Code.rounds Tryz.prog la Q j0 a' w') → Code.rounds Tryz.prog la Q (j0 + (17 * m + 3)) a w
  | 0, i, r, W, a, w, e, h, hr, ha, s_, k => by
    have : i = n := by omega
    subst this
    exact goFx hn (gs_lt hs _) (Nat.le_refl _) (by omega) (Nat.le_refl _) hb s_ fun a' w' s' => k W a' w' ha s'
  | m + 1, i, r, W, a, w, e, h, hr, ha, s_, k => by
    have ez : j0 + (17 * (m + 1) + 3) = ((j0 + (17 * m + 3)) + 6) + 11 := by omega
    rw [ez]
    refine goF hn (gs_lt hs _) h (by omega) (by omega) hb s_ fun a1 w1 s1 => ?_
    refine goG hn (gs_lt hs (i + 1)) h (by omega) (by omega) hb s1 fun a2 w2 s2 => ?_
    refine fill hn hs hb m (i + 1) (r + 11 + 6) _ a2 w2 (by omega) (by omega) (by omega) (fun q hq => ?_) s2 fun W' a' w' x1 x2 => ?_
    · have hg := gs_lt hs (i + 1)
      have e2 := rd_upd W i q ((gs s (i + 1) : Nat) : Int) (by omega) (by omega)
      by_cases c : q = i
      · subst c
        rw [if_pos rfl] at e2
        exact ⟨e2, hg⟩
      · rw [if_neg c] at e2
        obtain ⟨u1, u2⟩ := ha q (by omega)
        exact ⟨e2.trans u1, u2⟩
    · rw [show r + 11 + 6 + 17 * m + 3 = r + 17 * (m + 1) + 3 by omega] at x2
      exact k W' a' w' x1 x2
theorem inner {n i : Nat} (hn : n < 25) (hi : i < n) (hb : Base B μ 20000) {Q : Exit → Act → World → Prop} {j0 : Nat} : ∀ (m j s r : Nat) (W : Nat → BitVec 64) (A : Nat → Nat) (a : Act) (w : World), m + j = i → s < 1009 → r + 32 * m + 40 < 90000 → Ar n W A → SI n s i j r W B w0 μ a w →
    (∀ (s' : Nat) (W' : Nat → BitVec 64) (a' : Act) (w' : World), s' < 1009 → Ar n W' (inA m j A) → SO n s' i i (r + inT m j A) W' B w0 μ a' w' → Code.rounds Tryz.prog la Q j0 a' w') → Code.rounds Tryz.prog la Q (j0 + inT m j A) a w
  | 0, j, s, r, W, A, a, w, e, hs, hr, ha, s_, k => by
    have : j = i := by omega
    subst this
    exact goI0 hn hs hi (by omega) (Nat.le_refl _) (by omega) hb s_ fun a' w' s' => k s W a' w' hs ha s'
  | m + 1, j, s, r, W, A, a, w, e, hs, hr, ha, s_, k => by
    obtain ⟨a1, a2⟩ := ha j (by omega)
    obtain ⟨b1, b2⟩ := ha (j + 1) (by omega)
    by_cases c : A j ≤ A (j + 1)
    · have e1 : inT (m + 1) j A = inT m (j + 1) A + 14 := if_pos c
      have e2 : inA (m + 1) j A = inA m (j + 1) A := if_pos c
      rw [e1]
      rw [e1, e2] at k
      rw [← Nat.add_assoc]
      refine goI1 hn hs hi (by omega) (by omega) (by omega) (by omega) (by omega) (by omega) (by omega) hb s_ fun a3 w3 s3 => ?_
      refine inner hn hi hb m (j + 1) s (r + 14) W A a3 w3 (by omega) hs (by omega) ha s3 fun s' W' a' w' x1 x2 x3 => ?_
      rw [show r + 14 + inT m (j + 1) A = r + (inT m (j + 1) A + 14) by omega] at x3
      exact k s' W' a' w' x1 x2 x3
    · have e1 : inT (m + 1) j A = inT m (j + 1) (swp A j) + 32 := if_neg c
      have e2 : inA (m + 1) j A = inA m (j + 1) (swp A j) := if_neg c
      rw [e1]
      rw [e1, e2] at k
      have ez : j0 + (inT m (j + 1) (swp A j) + 32) = (((j0 + inT m (j + 1) (swp A j)) + 8) + 12) + 12 := by omega
      rw [ez]
      refine goI2 hn hs hi (by omega) (by omega) (by omega) (by omega) (by omega) (by omega) (by omega) hb s_ fun a3 w3 s3 => ?_
      refine goX hn hs hi (by omega) (by omega) (by omega) (by omega) (by omega) (by omega) hb s3 fun a4 w4 s4 => ?_
      refine goZ hn (by omega) hi (by omega) (by omega) hb s4 fun a5 w5 s5 => ?_
      refine inner hn hi hb m (j + 1) (rd W j).toNat (r + 12 + 12 + 8) _ (swp A j) a5 w5 (by omega) (by omega) (by omega) (ha.swp (by omega)) s5 fun s' W' a' w' x1 x2 x3 => ?_
      rw [show r + 12 + 12 + 8 + inT m (j + 1) (swp A j) = r + (inT m (j + 1) (swp A j) + 32) by omega] at x3
      exact k s' W' a' w' x1 x2 x3
theorem outer {n : Nat} (hn : n < 25) (hb : Base B μ 20000) {Q : Exit → Act → World → Prop} {j0 : Nat} : ∀ (i s j r : Nat) (W : Nat → BitVec 64) (A : Nat → Nat) (a : Act) (w : World), i ≤ n → s < 1009 → j ≤ 25 → r + 900 * i < 80000 → Ar n W A → SO n s i j r W B w0 μ a w →
    (∀ (j' : Nat) (W' : Nat → BitVec 64) (a' : Act) (w' : World), j' ≤ 25 → Ar n W' (outA i A) → SU n 0 0 j' (r + outT i A) W' B w0 μ a' w' → Code.rounds Tryz.prog la Q j0 a' w') → Code.rounds Tryz.prog la Q (j0 + outT i A) a w
  | 0, s, j, r, W, A, a, w, h, hs, hj, hr, ha, s_, k => by
    exact goOx hn hs h (by omega) hj (by omega) hb s_ fun a' w' s' => k j W a' w' hj ha s'
  | i + 1, s, j, r, W, A, a, w, h, hs, hj, hr, ha, s_, k => by
    by_cases c : i = 0
    · have e1 : outT (i + 1) A = 7 := if_pos c
      have e2 : outA (i + 1) A = A := if_pos c
      rw [e1]
      rw [e1, e2] at k
      exact goOx hn hs h (by omega) hj (by omega) hb s_ fun a' w' s' => k j W a' w' hj ha s'
    · have e1 : outT (i + 1) A = outT i (inA i 0 A) + inT i 0 A + 5 := if_neg c
      have e2 : outA (i + 1) A = outA i (inA i 0 A) := if_neg c
      have hT := inT_le i 0 A
      rw [e1]
      rw [e1, e2] at k
      have ez : j0 + (outT i (inA i 0 A) + inT i 0 A + 5) = ((j0 + outT i (inA i 0 A)) + inT i 0 A) + 5 := by omega
      rw [ez]
      refine goO hn hs h (by omega) hj (by omega) hb s_ fun a3 w3 s3 => ?_
      rw [show i + 1 - 1 = i by omega] at s3
      refine inner hn (by omega) hb i 0 s (r + 5) W A a3 w3 (by omega) hs (by omega) ha s3 fun s' W' a' w' x1 x2 x3 => ?_
      refine outer hn hb i s' i (r + 5 + inT i 0 A) W' (inA i 0 A) a' w' (by omega) x1 (by omega) (by omega) x2 x3 fun j2 W2 a2 w2 y1 y2 y3 => ?_
      rw [show r + 5 + inT i 0 A + outT i (inA i 0 A) = r + (outT i (inA i 0 A) + inT i 0 A + 5) by omega] at y3
      exact k j2 W2 a2 w2 y1 y2 y3
theorem sumR {n j : Nat} (hn : n < 25) (hj : j ≤ 25) (hb : Base B μ 20000) {Q : Exit → Act → World → Prop} {j0 : Nat} {W : Nat → BitVec 64} {A : Nat → Nat} (ha : Ar n W A) : ∀ (m i r : Nat) (a : Act) (w : World), m + i = n → r + 13 * m + 20 < 90000 → SU n (sm A i) i j r W B w0 μ a w →
    (∀ (a' : Act) (w' : World), SU n (sm A n) n j (r + 13 * m) W B w0 μ a' w' → Code.rounds Tryz.prog la Q j0 a' w') → Code.rounds Tryz.prog la Q (j0 + 13 * m) a w
  | 0, i, r, a, w, e, hr, s_, k => by
    have : i = n := by omega
    subst this
    exact k a w s_
  | m + 1, i, r, a, w, e, hr, s_, k => by
    obtain ⟨a1, a2⟩ := ha i (by omega)
    have ez : j0 + 13 * (m + 1) = (j0 + 13 * m) + 13 := by omega
    rw [ez]
    refine goS hn (by omega) (by omega) hj (sm_lo _ _) (sm_hi _ _) (by omega) (by omega) (wr_lo _) (wr_hi _) (wr_lo _) (wr_hi _) hb s_ fun a3 w3 s3 => ?_
    have e1 : wr (wr (sm A i * 7) + rd W i) = sm A (i + 1) := by rw [a1]; rfl
    rw [e1] at s3
    refine sumR hn hj hb ha m (i + 1) (r + 13) a3 w3 (by omega) (by omega) s3 fun a' w' x => ?_
    rw [show r + 13 + 13 * m = r + 13 * (m + 1) by omega] at x
    exact k a' w' x
/-- so many steps, ahead of the last ones -/
def tot (n s : Nat) : Nat := 10 + 30 * n + outT n (fun k => gs s (k + 1))
/-- all of the machine's run, ahead of its last steps -/
theorem runS {n s : Nat} (hn : n < 25) (hs : s < 1009) (hb : Base B μ 20000) {Q : Exit → Act → World → Prop} {j0 : Nat} {a : Act} {w : World} (s_ : SB n s B w0 μ a w)
    (k : ∀ (j' : Nat) (W' : Nat → BitVec 64) (a' : Act) (w' : World), j' ≤ 25 → SU n (sm (outA n fun k => gs s (k + 1)) n) n j' (tot n s) W' B w0 μ a' w' → Code.rounds Tryz.prog la Q j0 a' w') :
    Code.rounds Tryz.prog la Q (j0 + tot n s) a w := by
  have hT := outT_le n (fun k => gs s (k + 1)) hn
  have ez : j0 + tot n s = (((((j0 + 13 * n) + outT n (fun k => gs s (k + 1))) + (17 * n + 3)) + 2) + 5) := by unfold tot; omega
  rw [ez]
  refine goB hn hs hb s_ fun a1 w1 s1 => goN hn hs hb s1 fun a2 w2 s2 => ?_
  refine fill hn hs hb n 0 7 _ a2 w2 (by omega) (Nat.zero_le _) (by omega) (fun k hk => absurd hk (by omega)) s2 fun W3 a3 w3 x1 x2 => ?_
  refine outer hn hb n (gs s n) 0 _ W3 _ a3 w3 (Nat.le_refl _) (gs_lt hs _) (Nat.zero_le _) (by omega) x1 x2 fun j4 W4 a4 w4 y1 y2 y3 => ?_
  refine sumR hn y1 hb y2 n 0 _ a4 w4 (by omega) (by omega) y3 fun a5 w5 z => ?_
  rw [show 7 + 17 * n + 3 + outT n (fun k => gs s (k + 1)) + 13 * n = tot n s by unfold tot; omega] at z
  exact k j4 W4 a5 w5 y1 z
end
end Go.Proofs.YtaabcpibfignfaaGreatDoor.so
