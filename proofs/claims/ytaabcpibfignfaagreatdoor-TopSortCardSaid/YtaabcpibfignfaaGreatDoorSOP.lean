/-
  Sorting, in plain numbers: a machine's way and a law's way come to the same.
-/
namespace Go.Proofs.YtaabcpibfignfaaGreatDoor.so
/-- the numbers by their rule -/
def gs (s : Nat) : Nat → Nat
  | 0 => s
  | k + 1 => (gs s k * 61 + 17) % 1009
theorem gs_lt {s : Nat} (h : s < 1009) : ∀ k, gs s k < 1009
  | 0 => h
  | k + 1 => Nat.mod_lt _ (by decide)
def put (A : Nat → Nat) (j x : Nat) : Nat → Nat := fun k => if k = j then x else A k
/-- two neighbours change places -/
def swp (A : Nat → Nat) (j : Nat) : Nat → Nat := fun k => if k = j then A (j + 1) else if k = j + 1 then A j else A k
theorem swp_0 (A : Nat → Nat) (j : Nat) : swp A j j = A (j + 1) := if_pos rfl
theorem swp_1 (A : Nat → Nat) (j : Nat) : swp A j (j + 1) = A j := by unfold swp; rw [if_neg (by omega), if_pos rfl]
theorem swp_2 {A : Nat → Nat} {j k : Nat} (h : k ≠ j) (h2 : k ≠ j + 1) : swp A j k = A k := by unfold swp; rw [if_neg h, if_neg h2]
/-- how many of the first n are v -/
def cnt (A : Nat → Nat) : Nat → Nat → Nat
  | 0, _ => 0
  | n + 1, v => cnt A n v + (if A n = v then 1 else 0)
theorem cnt_congr {A B : Nat → Nat} : ∀ {n : Nat} (_ : ∀ k, k < n → A k = B k) (v : Nat), cnt A n v = cnt B n v
  | 0, _, _ => rfl
  | n + 1, h, v => by
    show cnt A n v + _ = cnt B n v + _
    rw [cnt_congr (fun k hk => h k (by omega)) v, h n (by omega)]
theorem cnt_swp {A : Nat → Nat} {j : Nat} : ∀ {n : Nat} (_ : j + 1 < n) (v : Nat), cnt (swp A j) n v = cnt A n v
  | n + 1, h, v => by
    by_cases c : j + 1 < n
    · show cnt (swp A j) n v + _ = cnt A n v + _
      rw [cnt_swp c v, swp_2 (by omega) (by omega)]
    · have : n = j + 1 := by omega
      subst this
      show cnt (swp A j) j v + (if swp A j j = v then 1 else 0) + (if swp A j (j + 1) = v then 1 else 0) = cnt A j v + (if A j = v then 1 else 0) + (if A (j + 1) = v then 1 else 0)
      rw [cnt_congr (B := A) (fun k hk => swp_2 (by omega) (by omega)) v, swp_0, swp_1]
      omega
def Srt (A : Nat → Nat) (n : Nat) : Prop := ∀ p q, p < q → q < n → A p ≤ A q
theorem cnt_zero {A : Nat → Nat} {v : Nat} : ∀ {n : Nat} (_ : ∀ k, k < n → A k ≠ v), cnt A n v = 0
  | 0, _ => rfl
  | n + 1, h => by
    show cnt A n v + _ = 0
    rw [cnt_zero (fun k hk => h k (by omega)), if_neg (h n (by omega))]
theorem top_eq {A B : Nat → Nat} {n : Nat} (ha : Srt A (n + 1)) (h : ∀ v, cnt A (n + 1) v = cnt B (n + 1) v) : B n ≤ A n := by
  by_cases c : B n ≤ A n
  · exact c
  · have h1 := h (B n)
    have h2 : cnt A (n + 1) (B n) = 0 := cnt_zero fun k hk => by
      by_cases d : k = n
      · subst d; omega
      · have := ha k n (by omega) (by omega)
        omega
    have h3 : cnt B (n + 1) (B n) = cnt B n (B n) + 1 := by show _ + (if B n = B n then 1 else 0) = _; rw [if_pos rfl]
    omega
theorem srt_eq {A B : Nat → Nat} : ∀ {n : Nat} (_ : Srt A n) (_ : Srt B n) (_ : ∀ v, cnt A n v = cnt B n v), ∀ k, k < n → A k = B k
  | n + 1, ha, hb, h, k, hk => by
    have e : A n = B n := Nat.le_antisymm (top_eq hb fun v => (h v).symm) (top_eq ha h)
    by_cases c : k = n
    · rw [c]; exact e
    · refine srt_eq (n := n) (fun p q x y => ha p q x (by omega)) (fun p q x y => hb p q x (by omega)) (fun v => ?_) k (by omega)
      have h1 : cnt A n v + (if A n = v then 1 else 0) = cnt B n v + (if B n = v then 1 else 0) := h v
      rw [e] at h1
      exact Nat.add_right_cancel h1
/- the machine's way -/
def inA : Nat → Nat → (Nat → Nat) → (Nat → Nat)
  | 0, _, A => A
  | m + 1, j, A => if A j ≤ A (j + 1) then inA m (j + 1) A else inA m (j + 1) (swp A j)
def inT : Nat → Nat → (Nat → Nat) → Nat
  | 0, _, _ => 4
  | m + 1, j, A => if A j ≤ A (j + 1) then inT m (j + 1) A + 14 else inT m (j + 1) (swp A j) + 32
theorem inT_le : ∀ (m j : Nat) (A : Nat → Nat), inT m j A ≤ 32 * m + 4
  | 0, _, _ => Nat.le_refl _
  | m + 1, j, A => by
    have h1 := inT_le m (j + 1) A
    have h2 := inT_le m (j + 1) (swp A j)
    unfold inT
    split <;> omega
def outA : Nat → (Nat → Nat) → (Nat → Nat)
  | 0, A => A
  | i + 1, A => if i = 0 then A else outA i (inA i 0 A)
def outT : Nat → (Nat → Nat) → Nat
  | 0, _ => 7
  | i + 1, A => if i = 0 then 7 else outT i (inA i 0 A) + inT i 0 A + 5
theorem outT_le : ∀ (i : Nat) (A : Nat → Nat), i < 25 → outT i A ≤ 7 + 800 * i
  | 0, _, _ => by show 7 ≤ _; omega
  | i + 1, A, h => by
    have h1 := outT_le i (inA i 0 A) (by omega)
    have h2 := inT_le i 0 A
    unfold outT
    split <;> omega
theorem inA_cnt {n i : Nat} (hi : i < n) (v : Nat) : ∀ (m j : Nat) (A : Nat → Nat), m + j = i → cnt (inA m j A) n v = cnt A n v
  | 0, _, _, _ => rfl
  | m + 1, j, A, h => by
    unfold inA
    split
    · exact inA_cnt hi v m (j + 1) A (by omega)
    · rw [inA_cnt hi v m (j + 1) _ (by omega), cnt_swp (by omega)]
/-- the greatest comes to the end of what is looked at -/
theorem inA_top {n i : Nat} : ∀ (m j : Nat) (A : Nat → Nat), m + j = i → (∀ p, p < j → A p ≤ A j) → (∀ p q, p < q → i < q → q < n → A p ≤ A q) → (∀ p, p < i → inA m j A p ≤ inA m j A i) ∧ ∀ p q, p < q → i < q → q < n → inA m j A p ≤ inA m j A q
  | 0, j, A, h, h1, h2 => ⟨fun p hp => by
      have : j = i := by omega
      subst this
      exact h1 p hp, h2⟩
  | m + 1, j, A, h, h1, h2 => by
    unfold inA
    split
    · rename_i c
      refine inA_top m (j + 1) A (by omega) (fun p hp => ?_) h2
      by_cases d : p = j
      · rw [d]; exact c
      · exact Nat.le_trans (h1 p (by omega)) c
    · rename_i c
      refine inA_top m (j + 1) (swp A j) (by omega) (fun p hp => ?_) (fun p q x y z => ?_)
      · rw [swp_1]
        by_cases d : p = j
        · rw [d, swp_0]; omega
        · rw [swp_2 d (by omega)]; exact h1 p (by omega)
      · rw [swp_2 (k := q) (by omega) (by omega)]
        by_cases d : p = j
        · rw [d, swp_0]; exact h2 (j + 1) q (by omega) y z
        · by_cases e : p = j + 1
          · rw [e, swp_1]; exact h2 j q (by omega) y z
          · rw [swp_2 d e]; exact h2 p q x y z
theorem outA_srt {n : Nat} : ∀ (i : Nat) (A : Nat → Nat), i ≤ n → (∀ p q, p < q → i ≤ q → q < n → A p ≤ A q) → Srt (outA i A) n ∧ ∀ v, cnt (outA i A) n v = cnt A n v
  | 0, A, _, h => ⟨fun p q x y => h p q x (Nat.zero_le _) y, fun _ => rfl⟩
  | i + 1, A, hi, h => by
    unfold outA
    split
    · rename_i c
      subst c
      exact ⟨fun p q x y => h p q x (by omega) y, fun _ => rfl⟩
    · obtain ⟨t1, t2⟩ := inA_top (n := n) (i := i) i 0 A (by omega) (fun p hp => absurd hp (by omega)) (fun p q x y z => h p q x (by omega) z)
      obtain ⟨u1, u2⟩ := outA_srt (n := n) i (inA i 0 A) (by omega) (fun p q x y z => by
        by_cases d : q = i
        · subst d; exact t1 p x
        · exact t2 p q x (by omega) z)
      exact ⟨u1, fun v => by rw [u2 v, inA_cnt (i := i) (by omega) v i 0 A (by omega)]⟩
/- the law's way -/
def insA : Nat → (Nat → Nat) → (Nat → Nat)
  | 0, A => A
  | k + 1, A => if A (k + 1) < A k then insA k (swp A k) else A
theorem insA_srt {i : Nat} : ∀ (k : Nat) (A : Nat → Nat), k ≤ i → (∀ p q, p < q → q ≤ i → q ≠ k → A p ≤ A q) → Srt (insA k A) (i + 1) ∧ ∀ v, cnt (insA k A) (i + 1) v = cnt A (i + 1) v
  | 0, A, _, h => ⟨fun p q x y => h p q x (by omega) (by omega), fun _ => rfl⟩
  | k + 1, A, hk, h => by
    unfold insA
    split
    · rename_i c
      obtain ⟨u1, u2⟩ := insA_srt (i := i) k (swp A k) (by omega) (fun p q x y z => by
        by_cases d : q = k + 1
        · subst d
          rw [swp_1]
          by_cases e : p = k
          · subst e; rw [swp_0]; omega
          · rw [swp_2 e (by omega)]; exact h p k (by omega) (by omega) (by omega)
        · rw [swp_2 (k := q) z d]
          by_cases e : p = k
          · subst e; rw [swp_0]; exact h (p + 1) q (by omega) y d
          · by_cases f : p = k + 1
            · subst f; rw [swp_1]; exact h k q (by omega) y d
            · rw [swp_2 e f]; exact h p q x y d)
      exact ⟨u1, fun v => by rw [u2 v, cnt_swp (by omega)]⟩
    · rename_i c
      refine ⟨fun p q x y => ?_, fun _ => rfl⟩
      by_cases d : q = k + 1
      · subst d
        by_cases e : p = k
        · subst e; omega
        · exact Nat.le_trans (h p k (by omega) (by omega) (by omega)) (by omega)
      · exact h p q x (by omega) d
def lawA (s : Nat) : Nat → Nat → Nat
  | 0 => fun _ => 0
  | i + 1 => insA i (put (lawA s i) i (gs s (i + 1)))
theorem insA_hi : ∀ (k : Nat) (A : Nat → Nat) (q : Nat), k < q → insA k A q = A q
  | 0, _, _, _ => rfl
  | k + 1, A, q, h => by
    unfold insA
    split
    · rw [insA_hi k _ q (by omega), swp_2 (by omega) (by omega)]
    · rfl
theorem lawA_srt (s : Nat) : ∀ i : Nat, Srt (lawA s i) i ∧ ∀ v, cnt (lawA s i) i v = cnt (fun k => gs s (k + 1)) i v
  | 0 => ⟨fun p q x y => absurd y (by omega), fun _ => rfl⟩
  | i + 1 => by
    obtain ⟨u1, u2⟩ := lawA_srt s i
    have e : ∀ k, k < i → put (lawA s i) i (gs s (i + 1)) k = lawA s i k := fun k hk => if_neg (by omega)
    obtain ⟨t1, t2⟩ := insA_srt (i := i) i (put (lawA s i) i (gs s (i + 1))) (Nat.le_refl _) (fun p q x y z => by
      rw [e p (by omega), e q (by omega)]
      exact u1 p q x (by omega))
    refine ⟨t1, fun v => ?_⟩
    show cnt (insA i _) (i + 1) v = _
    rw [t2 v]
    show cnt (put _ _ _) i v + (if put _ _ _ i = v then 1 else 0) = cnt _ i v + (if gs s (i + 1) = v then 1 else 0)
    rw [cnt_congr (B := lawA s i) e v, u2 v]
    have : put (lawA s i) i (gs s (i + 1)) i = gs s (i + 1) := if_pos rfl
    rw [this]
/-- both come to the same -/
theorem same_srt (s n : Nat) : ∀ k, k < n → outA n (fun k => gs s (k + 1)) k = lawA s n k := by
  obtain ⟨a1, a2⟩ := outA_srt (n := n) n (fun k => gs s (k + 1)) (Nat.le_refl _) (fun p q x y z => absurd z (by omega))
  obtain ⟨b1, b2⟩ := lawA_srt s n
  exact srt_eq a1 b1 fun v => by rw [a2 v, b2 v]
theorem inA_lt {B : Nat} : ∀ (m j : Nat) (A : Nat → Nat), (∀ k, A k < B) → ∀ k, inA m j A k < B
  | 0, _, _, h => h
  | m + 1, j, A, h => by
    unfold inA
    split
    · exact inA_lt m (j + 1) A h
    · refine inA_lt m (j + 1) _ fun k => ?_
      unfold swp
      split
      · exact h _
      · split
        · exact h _
        · exact h _
theorem insA_lt {B : Nat} : ∀ (k : Nat) (A : Nat → Nat), (∀ q, A q < B) → ∀ q, insA k A q < B
  | 0, _, h => h
  | k + 1, A, h => by
    unfold insA
    split
    · refine insA_lt k _ fun q => ?_
      unfold swp
      split
      · exact h _
      · split
        · exact h _
        · exact h _
    · exact h
theorem lawA_lt {s : Nat} (hs : s < 1009) : ∀ i k, lawA s i k < 1009
  | 0, _ => by show (0 : Nat) < 1009; decide
  | i + 1, k => insA_lt i _ (fun q => by
      unfold put
      split
      · exact gs_lt hs _
      · exact lawA_lt hs i q) k
end Go.Proofs.YtaabcpibfignfaaGreatDoor.so
