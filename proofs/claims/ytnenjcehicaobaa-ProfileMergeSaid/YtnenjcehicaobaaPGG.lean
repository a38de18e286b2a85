/-
  The law ProfileTop: the keys as they come; the map that is made of them (no program).
-/
import Derived.Test.YtnenjcehicaobaaPGF
set_option linter.unusedVariables false
set_option linter.unusedSimpArgs false
set_option linter.unusedSectionVars false
namespace Go.Proofs.Ytnenjcehicaobaa.pf
open Go.X Go.RowKit Go.Proofs
/-- the keys among the first texts, each once, as they come -/
noncomputable def kL (f : Nat → ByteArray) : Nat → List ByteArray
  | 0 => []
  | i + 1 => @ite _ (f i ∈ kL f i) (Classical.propDecidable _) (kL f i) (kL f i ++ [f i])
theorem kL_succ (f : Nat → ByteArray) (i : Nat) : (f i ∈ kL f i → kL f (i + 1) = kL f i) ∧ (f i ∉ kL f i → kL f (i + 1) = kL f i ++ [f i]) := by
  constructor
  · intro h
    conv => lhs; unfold kL
    rw [if_pos h]
  · intro h
    conv => lhs; unfold kL
    rw [if_neg h]
theorem kL_nodup (f : Nat → ByteArray) : ∀ i, (kL f i).Nodup
  | 0 => List.nodup_nil
  | i + 1 => by
    unfold kL
    split
    · exact kL_nodup f i
    · rename_i h
      rw [List.nodup_append]
      refine ⟨kL_nodup f i, by simp, fun x hx y hy => ?_⟩
      rw [List.mem_singleton] at hy
      subst hy
      exact fun c => h (by rw [← c]; exact hx)
theorem kL_pre (f : Nat → ByteArray) (i : Nat) : ∀ d, ∃ l, kL f (i + d) = kL f i ++ l
  | 0 => ⟨[], by simp⟩
  | d + 1 => by
    obtain ⟨l, h⟩ := kL_pre f i d
    rw [← Nat.add_assoc]
    rcases Classical.em (f (i + d) ∈ kL f (i + d)) with c | c
    · exact ⟨l, by rw [(kL_succ f (i + d)).1 c]; exact h⟩
    · exact ⟨l ++ [f (i + d)], by rw [(kL_succ f (i + d)).2 c, h, List.append_assoc]⟩
theorem kL_len (f : Nat → ByteArray) : ∀ i, (kL f i).length ≤ i
  | 0 => Nat.le_refl _
  | i + 1 => by
    have := kL_len f i
    unfold kL
    split
    · omega
    · rw [List.length_append, List.length_singleton]; omega
/-- the values: the last one counts -/
def vF (f : Nat → ByteArray) (x : Nat → Int) (kt : Nat → ByteArray) : Nat → Nat → Int
  | 0, _ => 0
  | i + 1, m => if kt m = f i then x i else vF f x kt i m
def EF (k : Nat) (kt : Nat → ByteArray) (v : Nat → Int) : List En × Nat := ((List.range k).map (fun m => (MK.s (kt m), v m, m)), k)
section
variable {kt : Nat → ByteArray} {v : Nat → Int} {s : ByteArray}
theorem mapL_some : ∀ (l : List Nat) {m : Nat}, m ∈ l → kt m = s → (∀ a ∈ l, ∀ b ∈ l, kt a = kt b → a = b) → mapL (.s s) (l.map (fun m => (MK.s (kt m), v m, m))) = some (v m)
  | [], m, h, _, _ => by cases h
  | a :: l, m, h, hs, inj => by
    rw [List.map_cons]
    unfold mapL
    by_cases c : kt a = s
    · rw [if_pos (by rw [c])]
      have : a = m := inj a List.mem_cons_self m h (by rw [c, hs])
      rw [this]
    · rw [if_neg (fun e => c (MK.s.inj e).symm)]
      refine mapL_some l ?_ hs (fun a ha b hb => inj a (List.mem_cons_of_mem _ ha) b (List.mem_cons_of_mem _ hb))
      rcases List.mem_cons.1 h with h | h
      · rw [h] at hs; exact absurd hs c
      · exact h
theorem mapL_none : ∀ (l : List Nat), (∀ m ∈ l, kt m ≠ s) → mapL (.s s) (l.map (fun m => (MK.s (kt m), v m, m))) = none
  | [], _ => rfl
  | a :: l, h => by
    rw [List.map_cons]
    unfold mapL
    rw [if_neg (fun e => h a List.mem_cons_self (MK.s.inj e).symm)]
    exact mapL_none l fun m hm => h m (List.mem_cons_of_mem _ hm)
theorem mapS_is : ∀ (l : List Nat) {x : Int}, (∀ a ∈ l, ∀ b ∈ l, kt a = kt b → a = b) → l.Nodup → mapS (.s s) x (l.map (fun m => (MK.s (kt m), v m, m))) = l.map (fun m => (MK.s (kt m), (if kt m = s then x else v m), m))
  | [], _, _, _ => rfl
  | a :: l, x, inj, nd => by
    rw [List.map_cons, List.map_cons]
    unfold mapS
    rw [List.nodup_cons] at nd
    by_cases c : kt a = s
    · rw [if_pos (by rw [c]), if_pos c, c]
      congr 1
      apply List.map_congr_left
      intro m hm
      have : kt m ≠ s := fun e => nd.1 (by
        have := inj a List.mem_cons_self m (List.mem_cons_of_mem _ hm) (by rw [c, e])
        rw [this]; exact hm)
      rw [if_neg this]
    · rw [if_neg (fun e => c (MK.s.inj e).symm), if_neg c]
      congr 1
      exact mapS_is l (fun a ha b hb => inj a (List.mem_cons_of_mem _ ha) b (List.mem_cons_of_mem _ hb)) nd.2
variable {k : Nat}
theorem EF_some {m : Nat} (hm : m < k) (hs : kt m = s) (inj : ∀ a b, a < k → b < k → kt a = kt b → a = b) : mapL (.s s) (EF k kt v).1 = some (v m) :=
  mapL_some _ (List.mem_range.2 hm) hs fun a ha b hb => inj a b (List.mem_range.1 ha) (List.mem_range.1 hb)
theorem EF_none (h : ∀ m, m < k → kt m ≠ s) : mapL (.s s) (EF k kt v).1 = none := mapL_none _ fun m hm => h m (List.mem_range.1 hm)
theorem EF_old {m : Nat} {x : Int} (hm : m < k) (hs : kt m = s) (inj : ∀ a b, a < k → b < k → kt a = kt b → a = b) : mapU (EF k kt v) (.s s) x = EF k kt (fun m => if kt m = s then x else v m) := by
  unfold mapU
  rw [EF_some hm hs inj]
  show (mapS _ _ _, _) = _
  unfold EF
  rw [mapS_is _ (fun a ha b hb => inj a b (List.mem_range.1 ha) (List.mem_range.1 hb)) List.nodup_range]
theorem EF_new {x : Int} (hs : kt k = s) (h : ∀ m, m < k → kt m ≠ s) : mapU (EF k kt v) (.s s) x = EF (k + 1) kt (fun m => if kt m = s then x else v m) := by
  unfold mapU
  rw [EF_none h]
  show ((List.range k).map (fun m => (MK.s (kt m), v m, m)) ++ [(MK.s s, x, k)], k + 1) = _
  unfold EF
  rw [List.range_succ, List.map_append]
  congr 2
  · apply List.map_congr_left
    intro m hm
    show (MK.s (kt m), v m, m) = (MK.s (kt m), (if kt m = s then x else v m), m)
    rw [if_neg (h m (List.mem_range.1 hm))]
  · simp [hs]
theorem EF_txt : ∀ e ∈ (EF k kt v).1, e.1.txt = true := fun e he => by
  obtain ⟨m, _, rfl⟩ := List.mem_map.1 he
  rfl
theorem EF_born : ∀ e ∈ (EF k kt v).1, e.2.2 < (EF k kt v).2 := fun e he => by
  obtain ⟨m, hm, rfl⟩ := List.mem_map.1 he
  exact List.mem_range.1 hm
theorem EF_nd : ((EF k kt v).1.map born).Nodup := by
  have : (EF k kt v).1.map born = List.range k := by
    unfold EF
    rw [List.map_map]
    conv => rhs; rw [← List.map_id (List.range k)]
    rfl
  rw [this]
  exact List.nodup_range
theorem EF_rows : (EF k kt v).1.map rowE = (List.range k).map (fun m => (kt m, v m)) := by
  unfold EF
  rw [List.map_map]
  rfl
end
/-- rows in order -/
theorem sort_ex : ∀ (l : List Row), l.Nodup → ∃ F : List Row, F.Perm l ∧ F.Pairwise Lt := by
  have ins : ∀ (F : List Row) (x : Row), F.Pairwise Lt → x ∉ F → ∃ F' : List Row, F'.Perm (x :: F) ∧ F'.Pairwise Lt := by
    intro F x
    induction F with
    | nil => exact fun _ _ => ⟨[x], List.Perm.refl _, List.pairwise_singleton _ _⟩
    | cons y F ih =>
      intro hF hx
      rcases Lt.total x y with h | h | h
      · refine ⟨x :: y :: F, List.Perm.refl _, List.pairwise_cons.2 ⟨fun z hz => ?_, hF⟩⟩
        rcases List.mem_cons.1 hz with rfl | hz
        · exact h
        · exact h.trans (List.rel_of_pairwise_cons hF hz)
      · exact absurd (by rw [h]; exact List.mem_cons_self) hx
      · obtain ⟨F', p, s⟩ := ih (List.Pairwise.of_cons hF) (fun c => hx (List.mem_cons_of_mem _ c))
        refine ⟨y :: F', (p.cons y).trans (List.Perm.swap x y F), List.pairwise_cons.2 ⟨fun z hz => ?_, s⟩⟩
        rcases List.mem_cons.1 (p.mem_iff.1 hz) with rfl | hz
        · exact h
        · exact List.rel_of_pairwise_cons hF hz
  intro l
  induction l with
  | nil => exact fun _ => ⟨[], List.Perm.refl _, List.Pairwise.nil⟩
  | cons x l ih =>
    intro hn
    rw [List.nodup_cons] at hn
    obtain ⟨F, p, s⟩ := ih hn.2
    obtain ⟨F', p', s'⟩ := ins F x s (fun c => hn.1 (p.mem_iff.1 c))
    exact ⟨F', p'.trans (p.cons x), s'⟩
end Go.Proofs.Ytnenjcehicaobaa.pf
