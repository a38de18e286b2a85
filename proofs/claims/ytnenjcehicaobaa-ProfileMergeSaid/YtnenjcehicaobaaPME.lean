/-
  The law ProfileMerge: keys of rows and columns (no program).
-/
import Derived.Test.YtnenjcehicaobaaPMD
set_option linter.unusedVariables false
set_option linter.unusedSimpArgs false
set_option linter.unusedSectionVars false
namespace Go.Proofs.Ytnenjcehicaobaa.pf
open Go.X Go.RowKit Go.Proofs
theorem K2_inj {i j i' j' : Nat} (h1 : i < 100) (h2 : j < 100) (h3 : i' < 100) (h4 : j' < 100) (h : K2 i j = K2 i' j') : i = i' ∧ j = j' := by
  unfold K2 at h
  have h : [UInt8.ofNat (97 + i), UInt8.ofNat (97 + j)] = [UInt8.ofNat (97 + i'), UInt8.ofNat (97 + j')] := by
    have := congrArg (fun b : ByteArray => b.data.toList) h
    simpa using this
  injection h with a b
  injection b with b _
  have ha := congrArg UInt8.toNat a
  have hb := congrArg UInt8.toNat b
  rw [UInt8.toNat_ofNat', UInt8.toNat_ofNat'] at ha hb
  omega
theorem EF_app {k : Nat} {kt : Nat → ByteArray} {v : Nat → Int} {s : ByteArray} {x : Int} (hs : kt k = s) (hv : v k = x) (h : ∀ m, m < k → kt m ≠ s) : mapU (EF k kt v) (.s s) x = EF (k + 1) kt v := by
  rw [EF_new hs h]
  unfold EF
  congr 1
  apply List.map_congr_left
  intro m hm
  have hm := List.mem_range.1 hm
  show (MK.s (kt m), (if kt m = s then x else v m), m) = (MK.s (kt m), v m, m)
  by_cases c : m = k
  · subst c
    rw [if_pos hs, hv]
  · rw [if_neg (h m (by omega))]
/-- places (row, column), row for row -/
def PL (L : Nat → Nat) (i : Nat) : List (Nat × Nat) := (List.range i).flatMap fun x => (List.range (L x)).map fun j => (x, j)
section
variable {L : Nat → Nat} {i j : Nat}
theorem PL_succ : PL L (i + 1) = PL L i ++ (List.range (L i)).map fun j => (i, j) := by
  unfold PL
  rw [List.range_succ, List.flatMap_append]
  simp
theorem PL_len : (PL L (i + 1)).length = (PL L i).length + L i := by rw [PL_succ, List.length_append, List.length_map, List.length_range]
theorem PL_pre (L : Nat → Nat) (i : Nat) : ∀ d, ∃ l, PL L (i + d) = PL L i ++ l
  | 0 => ⟨[], by simp⟩
  | d + 1 => by
    obtain ⟨l, h⟩ := PL_pre L i d
    rw [← Nat.add_assoc, PL_succ, h, List.append_assoc]
    exact ⟨_, rfl⟩
theorem PL_mem {x : Nat × Nat} (h : x ∈ PL L i) : x.1 < i ∧ x.2 < L x.1 := by
  unfold PL at h
  obtain ⟨y, hy, h⟩ := List.mem_flatMap.1 h
  obtain ⟨k, hk, rfl⟩ := List.mem_map.1 h
  exact ⟨List.mem_range.1 hy, List.mem_range.1 hk⟩
theorem PL_nodup : ∀ i, (PL L i).Nodup
  | 0 => List.nodup_nil
  | i + 1 => by
    rw [PL_succ, List.nodup_append]
    refine ⟨PL_nodup i, ?_, fun x hx y hy => ?_⟩
    · have : ∀ l : List Nat, l.Nodup → (l.map fun j => (i, j)).Nodup := by
        intro l hl
        induction l with
        | nil => exact List.nodup_nil
        | cons a l ih =>
          rw [List.nodup_cons] at hl
          rw [List.map_cons, List.nodup_cons]
          refine ⟨fun c => hl.1 ?_, ih hl.2⟩
          obtain ⟨b, hb, e⟩ := List.mem_map.1 c
          injection e with _ e
          rw [← e]; exact hb
      exact this _ List.nodup_range
    · obtain ⟨b, _, rfl⟩ := List.mem_map.1 hy
      have := (PL_mem hx).1
      intro c
      rw [c] at this
      exact Nat.lt_irrefl _ this
theorem PL_at {I : Nat} (hi : i < I) (hj : j < L i) : (PL L I)[(PL L i).length + j]? = some (i, j) := by
  obtain ⟨l, h⟩ := PL_pre L (i + 1) (I - (i + 1))
  rw [show I = i + 1 + (I - (i + 1)) by omega, h, PL_succ, List.append_assoc, List.getElem?_append_right (by omega), show (PL L i).length + j - (PL L i).length = j by omega, List.getElem?_append_left (by rw [List.length_map, List.length_range]; exact hj)]
  rw [List.getElem?_map, List.getElem?_range hj]
  rfl
end
def Lq (q : Lm) (i : Nat) : Nat := min (q.rn i) 8
def Iq (q : Lm) : Nat := min q.n 6
def off (q : Lm) (i : Nat) : Nat := (PL (Lq q) i).length
def pA (q : Lm) (t : Nat) : Nat × Nat := (PL (Lq q) (Iq q)).getD t (0, 0)
def kA (q : Lm) (t : Nat) : ByteArray := K2 (pA q t).1 (pA q t).2
def vA (q : Lm) (t : Nat) : Int := q.e (pA q t).1 (pA q t).2
section
variable {q : Lm} {i j : Nat}
theorem Lq_le : Lq q i ≤ 8 := by unfold Lq; omega
theorem off_succ : off q (i + 1) = off q i + Lq q i := PL_len
theorem off_le : ∀ i, off q i ≤ 8 * i
  | 0 => Nat.le_refl _
  | i + 1 => by have := off_le i; have := Lq_le (q := q) (i := i); rw [off_succ]; omega
theorem pA_at (hi : i < Iq q) (hj : j < Lq q i) : pA q (off q i + j) = (i, j) := by
  unfold pA off
  rw [List.getD_eq_getElem?_getD, PL_at hi hj]
  rfl
theorem pA_get {t : Nat} (ht : t < off q (Iq q)) : (PL (Lq q) (Iq q))[t]? = some (pA q t) := by
  unfold pA
  unfold off at ht
  rw [List.getD_eq_getElem?_getD, List.getElem?_eq_getElem ht]
  rfl
theorem pA_lt {t : Nat} (ht : t < off q (Iq q)) : (pA q t).1 < Iq q ∧ (pA q t).2 < Lq q (pA q t).1 := PL_mem (List.mem_of_getElem? (pA_get ht))
theorem kA_inj {t s : Nat} (ht : t < off q (Iq q)) (hs : s < off q (Iq q)) (h : kA q t = kA q s) : t = s := by
  have h1 := pA_lt ht
  have h2 := pA_lt hs
  have l1 := Lq_le (q := q) (i := (pA q t).1)
  have l2 := Lq_le (q := q) (i := (pA q s).1)
  have hI : Iq q ≤ 6 := by unfold Iq; omega
  obtain ⟨e1, e2⟩ := K2_inj (by omega) (by omega) (by omega) (by omega) h
  have e : pA q t = pA q s := Prod.ext e1 e2
  have g1 := pA_get ht
  have g2 := pA_get hs
  rw [e] at g1
  exact (List.getElem?_inj (by unfold off at ht; exact ht) (PL_nodup _)).1 (g1.trans g2.symm)
theorem off_mono : ∀ d, off q i ≤ off q (i + d)
  | 0 => Nat.le_refl _
  | d + 1 => by rw [← Nat.add_assoc, off_succ]; have := off_mono d; omega
theorem off_lt (hi : i < Iq q) (hj : j < Lq q i) : off q i + j < off q (Iq q) := by
  have := off_mono (q := q) (i := i + 1) (Iq q - (i + 1))
  rw [show i + 1 + (Iq q - (i + 1)) = Iq q by omega, off_succ] at this
  omega
theorem eA_app (hi : i < Iq q) (hj : j < Lq q i) : mapU (EF (off q i + j) (kA q) (vA q)) (.s (K2 i j)) (q.e i j) = EF (off q i + j + 1) (kA q) (vA q) := by
  have hp := pA_at hi hj
  have hk : kA q (off q i + j) = K2 i j := by unfold kA; rw [hp]
  refine EF_app hk (by unfold vA; rw [hp]) (fun m hm c => ?_)
  have hlt := off_lt hi hj
  have := kA_inj (q := q) (t := m) (s := off q i + j) (by omega) hlt (c.trans hk.symm)
  omega
theorem eI_app (hi : i < Iq q) (hj : j < Lq q i) : mapU (EF j (K2 i) (q.e i)) (.s (K2 i j)) (q.e i j) = EF (j + 1) (K2 i) (q.e i) := by
  have l1 := Lq_le (q := q) (i := i)
  have hI : Iq q ≤ 6 := by unfold Iq; omega
  refine EF_app rfl rfl (fun m hm c => ?_)
  have := (K2_inj (by omega) (by omega) (by omega) (by omega) c).2
  omega
/-- all rows, list for list -/
theorem rowsA : (List.range (off q (Iq q))).map (fun t => ((kA q t, vA q t) : Row)) = (List.range (Iq q)).flatMap fun i => (List.range (Lq q i)).map fun j => (K2 i j, q.e i j) := by
  have h1 : (List.range (off q (Iq q))).map (fun t => ((kA q t, vA q t) : Row)) = (PL (Lq q) (Iq q)).map fun x => (K2 x.1 x.2, q.e x.1 x.2) := by
    apply List.ext_getElem
    · simp [off]
    · intro t h1 h2
      have ht : t < off q (Iq q) := by simpa using h1
      have := pA_get ht
      simp only [List.getElem_map, List.getElem_range]
      have h3 : t < (PL (Lq q) (Iq q)).length := ht
      rw [List.getElem?_eq_getElem h3] at this
      rw [Option.some.inj this]
      rfl
  rw [h1]
  unfold PL
  rw [List.map_flatMap]
  congr 1
  funext i
  rw [List.map_map]
  rfl
end
end Go.Proofs.Ytnenjcehicaobaa.pf
