/-
  The laws of profile: what a queue of lists gives (no program).
-/
import Derived.Test.YtnenjcehicaobaaPFH
set_option linter.unusedVariables false
set_option linter.unusedSimpArgs false
set_option linter.unusedSectionVars false
namespace Go.Proofs.Ytnenjcehicaobaa.pf
open Go.X Go.RowKit Go.Proofs
def rst (G : Gi) : Nat → Nat → List Row
  | 0, _ => []
  | n + 1, e => G.row e :: rst G n (G.nx e)
def rest (G : Gi) (e : Nat) : List Row := rst G (G.len e) e
def qL (it : Nat → Nat) (n : Nat) : List Nat := (List.range n).map it
def qR (G : Gi) (it : Nat → Nat) (n : Nat) : List Row := (qL it n).flatMap (rest G)
section
variable {G : Gi} {it : Nat → Nat}
theorem rest_nil {e : Nat} (h : G.len e = 0) : rest G e = [] := by unfold rest; rw [h]; rfl
theorem rest_cons (g : Gok G) {e : Nat} (h : 0 < G.len e) : rest G e = G.row e :: rest G (G.nx e) := by
  unfold rest
  rw [g.l e h]
  obtain ⟨k, hk⟩ : ∃ k, G.len e = k + 1 := ⟨G.len e - 1, by omega⟩
  rw [hk]; rfl
theorem perm_flat {a b : List Nat} (h : a.Perm b) : (a.flatMap (rest G)).Perm (b.flatMap (rest G)) := h.flatMap_right _
/-- one item is another one, the others are as they were -/
theorem qL_head (n : Nat) : qL it (n + 1) = it 0 :: (List.range n).map (fun m => it (m + 1)) := by
  unfold qL
  rw [List.range_succ_eq_map, List.map_cons, List.map_map]
  rfl
theorem qL_congr {it' : Nat → Nat} {n : Nat} (h : ∀ m, m < n → it m = it' m) : qL it n = qL it' n := by
  unfold qL
  exact List.map_congr_left fun m hm => h m (List.mem_range.1 hm)
/-- the last one goes to the first place -/
theorem qL_pop (n : Nat) : (qL (swF (upF it 0 0) 0 n) n).Perm ((List.range n).map (fun m => it (m + 1))) := by
  match n with
  | 0 => exact List.Perm.refl _
  | k + 1 =>
    rw [qL_head]
    have e1 : swF (upF it 0 0) 0 (k + 1) 0 = it (k + 1) := by rw [sw_l (by omega), up_ne (by omega)]
    have e2 : (List.range k).map (fun m => swF (upF it 0 0) 0 (k + 1) (m + 1)) = (List.range k).map (fun m => it (m + 1)) := by
      apply List.map_congr_left
      intro m hm
      have := List.mem_range.1 hm
      rw [sw_o (by omega) (by omega), up_ne (by omega)]
    rw [e1, e2, List.range_succ, List.map_append]
    exact (List.perm_append_singleton _ _).symm
end
/-- the full list, and what is left of it -/
structure MI (G : Gi) (F : List Row) (it : Nat → Nat) (N o : Nat) : Prop where
  g : Gok G
  ne : ∀ m, m < N → 0 < G.len (it m)
  hp : HP G it N 0
  so : ∀ m, m < N → (rest G (it m)).Pairwise Lt
  sf : F.Pairwise Lt
  le : o ≤ F.length
  pm : (F.drop o).Perm (qR G it N)
section
variable {G : Gi} {it : Nat → Nat} {F : List Row} {N o : Nat}
theorem rest_le (g : Gok G) {e : Nat} (h : 0 < G.len e) (s : (rest G e).Pairwise Lt) : ∀ x ∈ rest G e, ¬ Lt x (G.row e) := by
  rw [rest_cons g h] at s ⊢
  intro x hx
  rcases List.mem_cons.1 hx with rfl | hx
  · exact Lt.irrefl _
  · exact (List.rel_of_pairwise_cons s hx).asymm
/-- the next one is at the queue's head -/
theorem MI.head (i : MI G F it N o) (h : 0 < N) : o < F.length ∧ F[o]? = some (G.row (it 0)) ∧ (F.drop (o + 1)).Perm (rest G (G.nx (it 0)) ++ ((List.range (N - 1)).map (fun m => it (m + 1))).flatMap (rest G)) := by
  obtain ⟨n, rfl⟩ : ∃ n, N = n + 1 := ⟨N - 1, by omega⟩
  have h0 := i.ne 0 (by omega)
  have e : qR G it (n + 1) = G.row (it 0) :: (rest G (G.nx (it 0)) ++ ((List.range n).map (fun m => it (m + 1))).flatMap (rest G)) := by
    unfold qR
    rw [qL_head, List.flatMap_cons, rest_cons i.g h0]
    rfl
  have hp := i.pm
  rw [e] at hp
  have hl := hp.length_eq
  simp only [List.length_drop, List.length_cons] at hl
  have ho : o < F.length := by omega
  have hd : F.drop o = F[o] :: F.drop (o + 1) := List.drop_eq_getElem_cons ho
  have hmin : ∀ x ∈ qR G it (n + 1), ¬ Lt x (G.row (it 0)) := by
    intro x hx
    unfold qR qL at hx
    simp only [List.mem_flatMap, List.mem_map, List.mem_range] at hx
    obtain ⟨_, ⟨m, hm, rfl⟩, hx⟩ := hx
    exact nlt_trans (rest_le i.g (i.ne m hm) (i.so m hm) x hx) (hp_min i.hp m hm)
  have hF : F[o] = G.row (it 0) := by
    have m1 : F[o] ∈ qR G it (n + 1) := i.pm.mem_iff.1 (by rw [hd]; exact List.mem_cons_self)
    have m2 : G.row (it 0) ∈ F.drop o := hp.mem_iff.2 List.mem_cons_self
    rw [hd] at m2
    rcases List.mem_cons.1 m2 with c | c
    · exact c.symm
    · exfalso
      have s : (F.drop o).Pairwise Lt := i.sf.sublist (List.drop_sublist _ _)
      rw [hd] at s
      exact hmin _ m1 (List.rel_of_pairwise_cons s c)
  refine ⟨ho, by rw [List.getElem?_eq_getElem ho, hF], ?_⟩
  rw [hd, hF] at hp
  exact hp.cons_inv
theorem up_qR (n : Nat) (v : Nat) : qR G (upF it 0 v) (n + 1) = rest G v ++ ((List.range n).map (fun m => it (m + 1))).flatMap (rest G) := by
  unfold qR
  rw [qL_head, List.flatMap_cons, up_eq]
  rfl
theorem dn_all {P : Nat → Prop} {n f s : Nat} {it : Nat → Nat} (h : ∀ m, m < n → P (it m)) : ∀ m, m < n → P ((dn G n f it s).1 m) := by
  intro m hm
  have := (dn_perm (G := G) (n := n) f s it).mem_iff (a := (dn G n f it s).1 m)
  have h2 : (dn G n f it s).1 m ∈ (List.range n).map it := this.1 (List.mem_map.2 ⟨m, List.mem_range.2 hm, rfl⟩)
  obtain ⟨k, hk, e⟩ := List.mem_map.1 h2
  rw [← e]; exact h k (List.mem_range.1 hk)
/-- the first list goes on -/
theorem MI.fix (i : MI G F it N o) (h : 0 < N) (hn : 0 < G.len (G.nx (it 0))) : MI G F (dn G N (N + 1) (upF it 0 (G.nx (it 0))) 0).1 N (o + 1) := by
  obtain ⟨h1, h2, h3⟩ := i.head h
  have h0 := i.ne 0 h
  have hne : ∀ m, m < N → 0 < G.len (upF it 0 (G.nx (it 0)) m) := fun m hm => by unfold upF; split; exact hn; exact i.ne m hm
  have hso : ∀ m, m < N → (rest G (upF it 0 (G.nx (it 0)) m)).Pairwise Lt := fun m hm => by
    unfold upF
    split
    · have := i.so 0 h
      rw [rest_cons i.g h0] at this
      exact List.Pairwise.of_cons this
    · exact i.so m hm
  refine ⟨i.g, dn_all (P := fun e => 0 < G.len e) hne, ?_, dn_all (P := fun e => (rest G e).Pairwise Lt) hso, i.sf, h1, h3.trans ?_⟩
  · refine dn_heap N 0 _ (by omega) (Nat.le_refl _) (fun m m1 m2 m3 m4 => ?_) (fun m m1 m2 m3 m4 m5 => by omega)
    rw [up_ne (by omega), up_ne (by omega)]
    exact i.hp m m1 m2 m3
  · obtain ⟨n, rfl⟩ : ∃ n, N = n + 1 := ⟨N - 1, by omega⟩
    rw [show n + 1 - 1 = n by omega, ← up_qR]
    exact (perm_flat (dn_perm _ _ _)).symm
/-- the first list is at its end -/
theorem MI.pop (i : MI G F it N o) (h : 0 < N) (hn : G.len (G.nx (it 0)) = 0) : MI G F (dn G (N - 1) (N - 1 + 1) (swF (upF it 0 (G.nx (it 0))) 0 (N - 1)) 0).1 (N - 1) (o + 1) := by
  obtain ⟨h1, h2, h3⟩ := i.head h
  obtain ⟨n, rfl⟩ : ∃ n, N = n + 1 := ⟨N - 1, by omega⟩
  rw [show n + 1 - 1 = n by omega] at h3 ⊢
  have hsw : ∀ m, m < n → ∃ k, k < n + 1 ∧ swF (upF it 0 (G.nx (it 0))) 0 n m = it k := by
    intro m hm
    by_cases c : m = 0
    · subst c; exact ⟨n, by omega, by rw [sw_l (by omega), up_ne (by omega)]⟩
    · exact ⟨m, by omega, by rw [sw_o c (by omega), up_ne c]⟩
  refine ⟨i.g, dn_all (P := fun e => 0 < G.len e) (fun m hm => ?_), ?_, dn_all (P := fun e => (rest G e).Pairwise Lt) (fun m hm => ?_), i.sf, h1, h3.trans ?_⟩
  · obtain ⟨k, hk, e⟩ := hsw m hm
    rw [e]; exact i.ne k hk
  · refine dn_heap n 0 _ (by omega) (Nat.le_refl _) (fun m m1 m2 m3 m4 => ?_) (fun m m1 m2 m3 m4 m5 => by omega)
    rw [sw_o (by omega) (by omega), up_ne (by omega), sw_o (by omega) (by omega), up_ne (by omega)]
    exact i.hp m m1 (by omega) m3
  · obtain ⟨k, hk, e⟩ := hsw m hm
    rw [e]; exact i.so k hk
  · rw [rest_nil hn, List.nil_append]
    refine (perm_flat ?_).symm
    refine (dn_perm _ _ _).trans ?_
    have e : (List.range n).map (swF (upF it 0 (G.nx (it 0))) 0 n) = qL (swF (upF it 0 0) 0 n) n := by
      unfold qL
      apply List.map_congr_left
      intro m hm
      have hm := List.mem_range.1 hm
      by_cases c : m = 0
      · subst c; rw [sw_l (by omega), sw_l (by omega), up_ne (by omega), up_ne (by omega)]
      · rw [sw_o c (by omega), sw_o c (by omega), up_ne c, up_ne c]
    rw [e]
    exact qL_pop n
theorem MI.done (i : MI G F it 0 o) : o = F.length := by
  have := i.pm.length_eq
  have e : qR G it 0 = [] := rfl
  rw [e] at this
  simp only [List.length_drop, List.length_nil] at this
  have := i.le
  omega
/- the heap is made -/
structure II (G : Gi) (F : List Row) (it : Nat → Nat) (N a : Nat) : Prop where
  g : Gok G
  ne : ∀ m, m < N → 0 < G.len (it m)
  hp : HP G it N a
  so : ∀ m, m < N → (rest G (it m)).Pairwise Lt
  sf : F.Pairwise Lt
  pm : F.Perm (qR G it N)
theorem II.down {a : Nat} (i : II G F it N (a + 1)) : II G F (dn G N (N + 1) it a).1 N a := by
  refine ⟨i.g, dn_all (P := fun e => 0 < G.len e) i.ne, ?_, dn_all (P := fun e => (rest G e).Pairwise Lt) i.so, i.sf, i.pm.trans (perm_flat (dn_perm _ _ _)).symm⟩
  exact dn_heap N a _ (by omega) (Nat.le_refl _) (fun m m1 m2 m3 m4 => i.hp m m1 m2 (by omega)) (fun m m1 m2 m3 m4 m5 => by omega)
theorem II.done (i : II G F it N 0) : MI G F it N 0 := ⟨i.g, i.ne, i.hp, i.so, i.sf, Nat.zero_le _, i.pm⟩
theorem hp_half {it : Nat → Nat} {N : Nat} : HP G it N (N / 2) := fun m m1 m2 m3 => by omega
/-- lists with rows, those before one -/
def qs (G : Gi) (ls : Nat → Nat) (r : Nat) : List Nat := (qL ls r).filter fun e => decide (0 < G.len e)
theorem qs_flat (ls : Nat → Nat) (r : Nat) : (qs G ls r).flatMap (rest G) = (qL ls r).flatMap (rest G) := by
  unfold qs
  induction qL ls r with
  | nil => rfl
  | cons e l ih =>
    rw [List.filter_cons]
    by_cases c : 0 < G.len e
    · rw [decide_eq_true c]
      simp only [if_true, List.flatMap_cons, ih]
    · rw [decide_eq_false c]
      simp only [Bool.false_eq_true, if_false, List.flatMap_cons, ih, rest_nil (show G.len e = 0 by omega), List.nil_append]
def qI (G : Gi) (ls : Nat → Nat) (r : Nat) : Nat → Nat := fun m => (qs G ls r).getD m 0
theorem qI_list (ls : Nat → Nat) (r : Nat) : qL (qI G ls r) (qs G ls r).length = qs G ls r := by
  apply List.ext_getElem
  · simp [qL]
  · intro m h1 h2
    simp only [qL, List.getElem_map, List.getElem_range, qI, List.getD_eq_getElem?_getD, List.getElem?_eq_getElem h2, Option.getD_some]
theorem qs_succ (ls : Nat → Nat) (r : Nat) : qs G ls (r + 1) = if 0 < G.len (ls r) then qs G ls r ++ [ls r] else qs G ls r := by
  unfold qs qL
  rw [List.range_succ, List.map_append, List.filter_append]
  by_cases c : 0 < G.len (ls r)
  · simp [c]
  · simp [c]
theorem II.start (g : Gok G) {ls : Nat → Nat} {M : Nat} (hs : ∀ m, m < M → (rest G (ls m)).Pairwise Lt) (sf : F.Pairwise Lt) (pm : F.Perm (qR G ls M)) : II G F (qI G ls M) (qs G ls M).length ((qs G ls M).length / 2) := by
  have hmem : ∀ m, m < (qs G ls M).length → qI G ls M m ∈ qs G ls M := fun m hm => by
    unfold qI
    rw [List.getD_eq_getElem?_getD, List.getElem?_eq_getElem hm]
    exact List.getElem_mem hm
  refine ⟨g, fun m hm => ?_, hp_half, fun m hm => ?_, sf, ?_⟩
  · have := (List.mem_filter.1 (hmem m hm)).2
    exact of_decide_eq_true this
  · have := (List.mem_filter.1 (hmem m hm)).1
    obtain ⟨k, hk, e⟩ := List.mem_map.1 this
    rw [← e]; exact hs k (List.mem_range.1 hk)
  · unfold qR
    rw [qI_list, qs_flat]
    exact pm
end
end Go.Proofs.Ytnenjcehicaobaa.pf
