/-
  The laws of profile: rows are ordered; heaps; lists that are put together (no program).
-/
import Derived.Test.YtnenjcehicaobaaPFG
set_option linter.unusedVariables false
set_option linter.unusedSimpArgs false
set_option linter.unusedSectionVars false
namespace Go.Proofs.Ytnenjcehicaobaa.pf
open Go.X Go.RowKit Go.Proofs
theorem cb_self : ∀ a : List UInt8, Lib.compareBytes a a = 0
  | [] => rfl
  | x :: a => by
    unfold Lib.compareBytes
    rw [if_neg (UInt8.lt_irrefl x), if_neg (UInt8.lt_irrefl x)]
    exact cb_self a
theorem cb_swap : ∀ a b : List UInt8, Lib.compareBytes b a = - Lib.compareBytes a b
  | [], [] => rfl
  | [], _ :: _ => rfl
  | _ :: _, [] => rfl
  | x :: a, y :: b => by
    unfold Lib.compareBytes
    by_cases h1 : x < y
    · rw [if_pos h1, if_neg (UInt8.lt_asymm h1), if_pos h1]; rfl
    · by_cases h2 : y < x
      · rw [if_pos h2, if_neg h1, if_pos h2]
      · rw [if_neg h1, if_neg h2, if_neg h2, if_neg h1]
        exact cb_swap a b
theorem cb_zero : ∀ a b : List UInt8, Lib.compareBytes a b = 0 → a = b
  | [], [], _ => rfl
  | [], _ :: _, h => by cases h
  | _ :: _, [], h => by cases h
  | x :: a, y :: b, h => by
    unfold Lib.compareBytes at h
    by_cases h1 : x < y
    · rw [if_pos h1] at h; cases h
    · by_cases h2 : y < x
      · rw [if_neg h1, if_pos h2] at h; cases h
      · rw [if_neg h1, if_neg h2] at h
        rw [cb_zero a b h]
        have : x = y := UInt8.le_antisymm (UInt8.not_lt.1 h2) (UInt8.not_lt.1 h1)
        rw [this]
theorem cb_range : ∀ a b : List UInt8, Lib.compareBytes a b = -1 ∨ Lib.compareBytes a b = 0 ∨ Lib.compareBytes a b = 1
  | [], [] => .inr (.inl rfl)
  | [], _ :: _ => .inl rfl
  | _ :: _, [] => .inr (.inr rfl)
  | x :: a, y :: b => by
    unfold Lib.compareBytes
    by_cases h1 : x < y
    · rw [if_pos h1]; exact .inl rfl
    · by_cases h2 : y < x
      · rw [if_neg h1, if_pos h2]; exact .inr (.inr rfl)
      · rw [if_neg h1, if_neg h2]; exact cb_range a b
theorem cb_trans : ∀ a b c : List UInt8, Lib.compareBytes a b < 0 → Lib.compareBytes b c < 0 → Lib.compareBytes a c < 0
  | [], [], c, h, _ => by cases h
  | _ :: _, [], c, h, _ => by cases h
  | [], _ :: _, [], _, h => by cases h
  | [], _ :: _, _ :: _, _, _ => by show (-1 : Int) < 0; decide
  | _ :: _, _ :: _, [], _, h => by cases h
  | x :: a, y :: b, z :: c, h, k => by
    unfold Lib.compareBytes at h k ⊢
    by_cases h1 : x < y
    · by_cases k1 : y < z
      · rw [if_pos (UInt8.lt_trans h1 k1)]; decide
      · by_cases k2 : z < y
        · rw [if_neg k1, if_pos k2] at k; cases k
        · have : y = z := UInt8.le_antisymm (UInt8.not_lt.1 k2) (UInt8.not_lt.1 k1)
          rw [← this, if_pos h1]; decide
    · by_cases h2 : y < x
      · rw [if_neg h1, if_pos h2] at h; cases h
      · have e : x = y := UInt8.le_antisymm (UInt8.not_lt.1 h2) (UInt8.not_lt.1 h1)
        rw [if_neg h1, if_neg h2] at h
        subst e
        by_cases k1 : x < z
        · rw [if_pos k1]; decide
        · by_cases k2 : z < x
          · rw [if_neg k1, if_pos k2] at k; cases k
          · rw [if_neg k1, if_neg k2] at k ⊢
            exact cb_trans a b c h k
theorem cmpS_zero {a b : ByteArray} (h : cmpS a b = 0) : a = b := by
  have := cb_zero _ _ h
  cases a; cases b
  congr 1
  exact Array.ext' this
def Lt (a b : Row) : Prop := cmpR a b < 0
theorem cmpN_cases (x y : Int) : (x < y ∧ cmpN x y = -1) ∨ (x = y ∧ cmpN x y = 0) ∨ (y < x ∧ cmpN x y = 1) := by
  unfold cmpN
  by_cases h1 : x < y
  · exact .inl ⟨h1, if_pos h1⟩
  · by_cases h2 : y < x
    · exact .inr (.inr ⟨h2, by rw [if_neg h1, if_pos h2]⟩)
    · exact .inr (.inl ⟨by omega, by rw [if_neg h1, if_neg h2]⟩)
theorem Lt_iff {a b : Row} : Lt a b ↔ b.2 < a.2 ∨ (a.2 = b.2 ∧ cmpS a.1 b.1 < 0) := by
  unfold Lt cmpR
  rcases cmpN_cases b.2 a.2 with ⟨h1, h2⟩ | ⟨h1, h2⟩ | ⟨h1, h2⟩
  · rw [h2, if_neg (by decide)]; exact ⟨fun _ => .inl h1, fun _ => by decide⟩
  · rw [h2, if_pos rfl]; exact ⟨fun h => .inr ⟨h1.symm, h⟩, fun h => h.elim (fun h => by omega) (fun h => h.2)⟩
  · rw [h2, if_neg (by decide)]; exact ⟨fun h => by omega, fun h => h.elim (fun h => by omega) (fun h => by omega)⟩
theorem Lt.trans {a b c : Row} (h : Lt a b) (k : Lt b c) : Lt a c := by
  rw [Lt_iff] at *
  rcases h with h | ⟨h, h'⟩ <;> rcases k with k | ⟨k, k'⟩
  · exact .inl (by omega)
  · exact .inl (by omega)
  · exact .inl (by omega)
  · exact .inr ⟨by omega, cb_trans _ _ _ h' k'⟩
theorem Lt.irrefl (a : Row) : ¬ Lt a a := by
  rw [Lt_iff]
  rintro (h | ⟨_, h⟩)
  · omega
  · unfold cmpS at h; rw [cb_self] at h; cases h
theorem Lt.asymm {a b : Row} (h : Lt a b) : ¬ Lt b a := fun k => Lt.irrefl a (h.trans k)
theorem Lt.total (a b : Row) : Lt a b ∨ a = b ∨ Lt b a := by
  rw [Lt_iff, Lt_iff]
  by_cases h1 : b.2 < a.2
  · exact .inl (.inl h1)
  by_cases h2 : a.2 < b.2
  · exact .inr (.inr (.inl h2))
  have h3 : a.2 = b.2 := by omega
  rcases cb_range a.1.data.toList b.1.data.toList with h | h | h
  · exact .inl (.inr ⟨h3, by unfold cmpS; rw [h]; decide⟩)
  · exact .inr (.inl (Prod.ext (cmpS_zero h) h3))
  · exact .inr (.inr (.inr ⟨h3.symm, by unfold cmpS; rw [cb_swap, h]; decide⟩))
theorem nlt_trans {a b c : Row} (h : ¬ Lt a b) (k : ¬ Lt b c) : ¬ Lt a c := by
  intro l
  rcases Lt.total a b with h1 | rfl | h1
  · exact h h1
  · exact k l
  · exact k (h1.trans l)
theorem less_iff {G : Gi} {a b : Nat} : lessI G a b = true ↔ Lt (G.row a) (G.row b) := by unfold lessI Lt; rw [decide_eq_true_iff]
theorem less_not {G : Gi} {a b : Nat} : lessI G a b = false ↔ ¬ Lt (G.row a) (G.row b) := by unfold lessI Lt; rw [decide_eq_false_iff_not]
/- heaps -/
section
variable {G : Gi}
def HP (G : Gi) (it : Nat → Nat) (n a : Nat) : Prop := ∀ m, 0 < m → m < n → a ≤ (m - 1) / 2 → ¬ Lt (G.row (it m)) (G.row (it ((m - 1) / 2)))
theorem sw_l {f : Nat → Nat} {a b : Nat} (h : a ≠ b) : swF f a b a = f b := by unfold swF; rw [up_ne h, up_eq]
theorem sw_r {f : Nat → Nat} {a b : Nat} : swF f a b b = f a := by unfold swF; rw [up_eq]
theorem sw_o {f : Nat → Nat} {a b m : Nat} (h : m ≠ a) (k : m ≠ b) : swF f a b m = f m := by unfold swF; rw [up_ne k, up_ne h]
theorem dnJ_is {n i : Nat} {it : Nat → Nat} : dnJ G n it i = 2 * i + 1 ∨ dnJ G n it i = 2 * i + 2 := by unfold dnJ; split <;> simp
/-- the child that is taken is no greater than the other one -/
theorem dnJ_min {n i m : Nat} {it : Nat → Nat} (hm : 0 < m) (hn : m < n) (hp : (m - 1) / 2 = i) : ¬ Lt (G.row (it m)) (G.row (it (dnJ G n it i))) := by
  have hc : m = 2 * i + 1 ∨ m = 2 * i + 2 := by omega
  unfold dnJ
  split
  · rename_i c
    rw [Bool.and_eq_true] at c
    have c2 := less_iff.1 c.2
    rcases hc with rfl | rfl
    · exact c2.asymm
    · exact Lt.irrefl _
  · rename_i c
    rcases hc with rfl | rfl
    · exact Lt.irrefl _
    · rw [Bool.and_eq_true] at c
      intro l
      exact c ⟨decide_eq_true hn, less_iff.2 l⟩
theorem dn_heap {n a : Nat} : ∀ (f i : Nat) (it : Nat → Nat), n ≤ i + f → a ≤ i → (∀ m, 0 < m → m < n → a ≤ (m - 1) / 2 → (m - 1) / 2 ≠ i → ¬ Lt (G.row (it m)) (G.row (it ((m - 1) / 2)))) →
    (∀ m, 0 < m → m < n → (m - 1) / 2 = i → 0 < i → a ≤ (i - 1) / 2 → ¬ Lt (G.row (it m)) (G.row (it ((i - 1) / 2)))) → HP G (dn G n (f + 1) it i).1 n a
  | f, i, it, hf, ha, H1, H2 => by
    by_cases g : 2 * i + 1 < n ∧ lessI G (it (dnJ G n it i)) (it i) = true
    · match f with
      | 0 => omega
      | f + 1 =>
        rw [dn_go g.1 g.2]
        have hj := dnJ_is (G := G) (n := n) (i := i) (it := it)
        have hjn := dnJ_lt (G := G) (it := it) g.1
        have hmin := fun m h1 h2 h3 => dnJ_min (G := G) (n := n) (i := i) (m := m) (it := it) h1 h2 h3
        have hl := less_iff.1 g.2
        generalize dnJ G n it i = j at *
        have hpj : (j - 1) / 2 = i := by omega
        refine dn_heap f j _ (by omega) (by omega) (fun m h1 h2 h3 h4 => ?_) (fun m h1 h2 h3 h4 h5 => ?_)
        · by_cases c : (m - 1) / 2 = i
          · rw [c, sw_l (by omega)]
            by_cases d : m = j
            · rw [d, sw_r]; exact hl.asymm
            · rw [sw_o (by omega) d]; exact hmin m h1 h2 c
          · by_cases d : m = i
            · have e1 : swF it i j m = it j := by rw [d]; exact sw_l (by omega)
              have e2 : swF it i j ((m - 1) / 2) = it ((i - 1) / 2) := by rw [d]; exact sw_o (by omega) (by omega)
              rw [e1, e2]
              exact H2 j (by omega) hjn hpj (by omega) (by rw [d] at h3; exact h3)
            · rw [sw_o d (by intro e; rw [e] at c; omega), sw_o c h4]
              exact H1 m h1 h2 h3 c
        · rw [hpj, sw_l (by omega), sw_o (by omega) (by omega)]
          have := H1 m h1 h2 (by omega) (by omega)
          rw [h3] at this
          exact this
    · rw [dn_stop g]
      intro m h1 h2 h3
      show ¬ Lt (G.row (it m)) (G.row (it ((m - 1) / 2)))
      by_cases c : (m - 1) / 2 = i
      · rw [c]
        have h4 := dnJ_min (G := G) (it := it) h1 h2 c
        refine nlt_trans h4 ?_
        intro l
        exact g ⟨by omega, less_iff.2 l⟩
      · exact H1 m h1 h2 h3 c
theorem dn_out {n : Nat} : ∀ (f i : Nat) (it : Nat → Nat) (m : Nat), n ≤ m → i < m → (dn G n f it i).1 m = it m
  | 0, i, it, m, h, h0 => rfl
  | f + 1, i, it, m, h, h0 => by
    by_cases g : 2 * i + 1 < n ∧ lessI G (it (dnJ G n it i)) (it i) = true
    · rw [dn_go g.1 g.2]
      have hjn := dnJ_lt (G := G) (it := it) g.1
      rw [dn_out f _ _ m h (by omega), sw_o (by omega) (by omega)]
    · rw [dn_stop g]
theorem sw_perm {f : Nat → Nat} {a b n : Nat} (ha : a < n) (hb : b < n) : ((List.range n).map (swF f a b)).Perm ((List.range n).map f) := by
  have hs : ((List.range n).map f).toArray.size = n := by simp
  have h := Array.swap_perm (xs := ((List.range n).map f).toArray) (i := a) (j := b) (by omega) (by omega)
  have h2 := h.toList
  have e : (((List.range n).map f).toArray.swap a b (by omega) (by omega)).toList = (List.range n).map (swF f a b) := by
    apply List.ext_getElem
    · simp
    · intro m h1 h2
      have hm : m < n := by simpa using h2
      simp only [Array.getElem_toList, List.getElem_map, List.getElem_range]
      rw [Array.getElem_swap]
      unfold swF upF
      by_cases c1 : m = a
      · by_cases c2 : m = b
        · subst c1; subst c2; simp
        · rw [if_pos c1]; subst c1; simp [c2]
      · rw [if_neg c1]
        by_cases c2 : m = b
        · simp [c2]
        · simp [c1, c2]
  rw [e] at h2
  simpa using h2
theorem dn_perm {n : Nat} : ∀ (f i : Nat) (it : Nat → Nat), ((List.range n).map (dn G n f it i).1).Perm ((List.range n).map it)
  | 0, i, it => List.Perm.refl _
  | f + 1, i, it => by
    by_cases g : 2 * i + 1 < n ∧ lessI G (it (dnJ G n it i)) (it i) = true
    · rw [dn_go g.1 g.2]
      exact (dn_perm f _ _).trans (sw_perm (by omega) (dnJ_lt g.1))
    · rw [dn_stop g]
theorem hp_min {n : Nat} {it : Nat → Nat} (h : HP G it n 0) : ∀ m, m < n → ¬ Lt (G.row (it m)) (G.row (it 0)) := by
  intro m
  induction m using Nat.strongRecOn with
  | ind m ih =>
    intro hm
    by_cases c : m = 0
    · rw [c]; exact Lt.irrefl _
    · exact nlt_trans (h m (by omega) hm (Nat.zero_le _)) (ih ((m - 1) / 2) (by omega) (by omega))
end
end Go.Proofs.Ytnenjcehicaobaa.pf
