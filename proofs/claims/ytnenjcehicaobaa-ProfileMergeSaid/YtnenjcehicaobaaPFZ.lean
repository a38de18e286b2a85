/-
  The laws of profile: Top: its loop.
-/
import Derived.Test.YtnenjcehicaobaaPFY
set_option linter.unusedVariables false
set_option linter.unusedSimpArgs false
set_option linter.unusedSectionVars false
set_option maxRecDepth 1000000
set_option maxHeartbeats 0
namespace Go.Proofs.Ytnenjcehicaobaa.pf
open Go.X Go.RowKit Go.Proofs
abbrev En : Type := MK × Int × Nat
def rowE (e : En) : Row := (match e.1 with
  | .s b => b
  | .n _ => .empty, e.2.1)
def born (e : En) : Nat := e.2.2
structure TIn (p : Pm) (F : List Row) : Prop where
  z : ∀ e, p.G.len e = 0
  tx : ∀ e ∈ (p.mm 0).1, e.1.txt = true
  bd : ∀ e ∈ (p.mm 0).1, e.2.2 < (p.mm 0).2
  nd : ((p.mm 0).1.map born).Nodup
  ln : (p.mm 0).1.length < 999998
  sf : F.Pairwise Lt
  pm : F.Perm ((p.mm 0).1.map rowE)
  f : Fok p F
/- what is drawn: some of the entries, each once -/
structure Dr (es : List En) (D : List En) (ro : Nat → Row) : Prop where
  s : ∀ e ∈ D, e ∈ es
  n : (D.map born).Nodup
  r : (List.range D.length).map ro = D.map rowE
theorem filter_le {l : List En} {p q : En → Bool} (h : ∀ x, q x = true → p x = true) : (l.filter q).length ≤ (l.filter p).length := by
  induction l with
  | nil => exact Nat.le_refl _
  | cons a l ih =>
    rw [List.filter_cons, List.filter_cons]
    cases hq : q a
    · cases hp : p a
      · simpa using ih
      · simp only [Bool.false_eq_true, if_false, if_true, List.length_cons]; omega
    · rw [h a hq]
      simp only [if_true, List.length_cons]; omega
theorem filter_lt {l : List En} {p q : En → Bool} {e : En} (he : e ∈ l) (hp : p e = true) (hq : q e = false) (h : ∀ x, q x = true → p x = true) : (l.filter q).length < (l.filter p).length := by
  induction l with
  | nil => cases he
  | cons a l ih =>
    rw [List.filter_cons, List.filter_cons]
    by_cases c : e = a
    · subst c
      rw [hp, hq]
      simp only [Bool.false_eq_true, if_false, if_true, List.length_cons]
      have := filter_le (l := l) h
      omega
    · have he : e ∈ l := by
        rcases List.mem_cons.1 he with h | h
        · exact absurd h c
        · exact h
      have := ih he
      cases hq2 : q a
      · cases hp2 : p a
        · simpa using this
        · simp only [Bool.false_eq_true, if_false, if_true, List.length_cons]; omega
      · rw [h a hq2]
        simp only [if_true, List.length_cons]; omega
def left (es D : List En) : Nat := (es.filter fun e => decide (born e ∉ D.map born)).length
theorem left_lt {es D : List En} {e : En} (he : e ∈ es) (hn : born e ∉ D.map born) : left es (D ++ [e]) < left es D := by
  refine filter_lt he (decide_eq_true hn) (decide_eq_false (by simp)) (fun x hx => ?_)
  have hx := of_decide_eq_true hx
  refine decide_eq_true (fun c => hx ?_)
  rw [List.map_append]
  exact List.mem_append_left _ c
theorem nodup_inj {es : List En} (h : (es.map born).Nodup) {e d : En} (he : e ∈ es) (hd : d ∈ es) (hb : born e = born d) : e = d := by
  induction es with
  | nil => cases he
  | cons a l ih =>
    rw [List.map_cons, List.nodup_cons] at h
    rcases List.mem_cons.1 he with h1 | h1
    · rcases List.mem_cons.1 hd with h2 | h2
      · rw [h1, h2]
      · exact absurd (by rw [← h1, hb]; exact List.mem_map.2 ⟨d, h2, rfl⟩) h.1
    · rcases List.mem_cons.1 hd with h2 | h2
      · exact absurd (by rw [← h2, ← hb]; exact List.mem_map.2 ⟨e, h1, rfl⟩) h.1
      · exact ih h.2 h1 h2
theorem nodup_of {es : List En} (h : (es.map born).Nodup) : es.Nodup := by
  induction es with
  | nil => exact List.nodup_nil
  | cons a l ih =>
    rw [List.map_cons, List.nodup_cons] at h
    exact List.nodup_cons.2 ⟨fun c => h.1 (List.mem_map.2 ⟨a, c, rfl⟩), ih h.2⟩
theorem Dr.all {es D : List En} {ro : Nat → Row} (h : Dr es D ro) (hn : (es.map born).Nodup) (ha : ∀ e ∈ es, born e ∈ D.map born) : D.Perm es := by
  refine (List.perm_ext_iff_of_nodup (nodup_of h.n) (nodup_of hn)).2 fun e => ⟨h.s e, fun he => ?_⟩
  obtain ⟨d, hd, e1⟩ := List.mem_map.1 (ha e he)
  rw [nodup_inj hn he (h.s d hd) e1.symm]
  exact hd
theorem Dr.more {es D : List En} {ro : Nat → Row} (h : Dr es D ro) {e : En} (he : e ∈ es) (hn : born e ∉ D.map born) : Dr es (D ++ [e]) (fun m => if m = D.length then rowE e else ro m) := by
  refine ⟨fun x hx => ?_, ?_, ?_⟩
  · rcases List.mem_append.1 hx with hx | hx
    · exact h.s x hx
    · rw [List.mem_singleton.1 hx]; exact he
  · rw [List.map_append, List.nodup_append]
    refine ⟨h.n, by simp, fun x hx y hy => ?_⟩
    rw [List.map_cons, List.map_nil, List.mem_singleton] at hy
    subst hy
    exact fun c => hn (by rw [← c]; exact hx)
  · rw [List.length_append, List.length_singleton, List.range_succ, List.map_append, List.map_append]
    congr 1
    · rw [← h.r]
      apply List.map_congr_left
      intro m hm
      have := List.mem_range.1 hm
      rw [if_neg (by omega)]
    · simp
theorem find_born {es : List En} (h : (es.map born).Nodup) {e : En} (he : e ∈ es) : es.find? (fun x => Nat.beq x.2.2 (born e)) = some e := by
  induction es with
  | nil => cases he
  | cons a l ih =>
    rw [List.map_cons, List.nodup_cons] at h
    rw [List.find?_cons]
    rcases List.mem_cons.1 he with rfl | he
    · have : Nat.beq e.2.2 (born e) = true := Nat.beq_refl _
      rw [this]
    · have : Nat.beq a.2.2 (born e) = false := by
        rw [Bool.eq_false_iff]
        intro c
        have c : born a = born e := Nat.eq_of_beq_eq_true c
        exact h.1 (by rw [c]; exact List.mem_map.2 ⟨e, he, rfl⟩)
      rw [this]
      exact ih h.2 he
end Go.Proofs.Ytnenjcehicaobaa.pf
