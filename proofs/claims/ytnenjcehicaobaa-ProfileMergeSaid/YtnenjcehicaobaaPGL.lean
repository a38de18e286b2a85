/-
  The law ProfileTop: Top is called; what came out is looked at.
-/
import Derived.Test.YtnenjcehicaobaaPGK
set_option linter.unusedVariables false
set_option linter.unusedSimpArgs false
set_option linter.unusedSectionVars false
set_option maxRecDepth 1000000
set_option maxHeartbeats 0
namespace Go.Proofs.Ytnenjcehicaobaa.pf
open Go.X Go.RowKit Go.Proofs
noncomputable def nK (q : Lw) : Nat := kN q (nL' q)
noncomputable def eK (q : Lw) : List En × Nat := eN q (nL' q)
noncomputable def vK' (q : Lw) : Nat → Int := vN q (nL' q)
/-- all rows in order -/
structure Fr' (q : Lw) (F : List Row) : Prop where
  kt : Kt q
  sf : F.Pairwise Lt
  pm : F.Perm ((List.range (nK q)).map (fun m => (q.kt m, vK' q m)))
  R : ∀ i, i < F.length → F[i]? = some (q.R i)
  o : q.o = min q.K.toNat F.length
/-- behind the first loop -/
noncomputable def atB (q : Lw) (i j : Nat) (vi : Int) : Lw := { q with i := i, k := nK q, E := eK q, E' := eK q, j := j, vi := vi }
section
variable {q : Lw} {B : Kp} {w0 : World} {μ : M} {a : Act} {w : World} {i j : Nat} {F : List Row}
def SB (q : Lw) (B : Kp) (w0 : World) (μ : M) (a : Act) (w : World) : Prop :=
  (nK q = 0 ∧ St (L0 (atB q 0 0 0)) B w0 μ ntL (frOf (fsB .nils)) (hOf 19000 (bsA0 18001)) a w) ∨ (0 < nK q ∧ St (L0 (atB q 0 0 0)) B w0 μ ntL (frOf (fsB kv)) (hOf 19000 (bsA1 18001 18002 40)) a w)
theorem vKey' {p p' : Lw} {R : Rl p} {C : Cv} {l : VP} {x : Nat} (hk : p'.k = p.k) (ht : p'.kt = p.kt) (k : VpOk R.T (L0 p') C l) : VpOk R.T (L0 p') C ((x, .vec 40, 40) :: l) :=
  vKey (n := p.k) (n' := p'.k) k (by exact rfl) (by exact rfl) (by omega) (by show p'.k ≤ p.k; omega) (fun m _ => by show strL p (100 + 4 * m) = strL p' (100 + 4 * m); rw [strL_k, strL_k, ht])
theorem vOut' {p p' : Lw} {R : Rl p} {C : Cv} {l : VP} {x : Nat} (ho : p'.o = p.o) (hR : p'.R = p.R) (k : VpOk R.T (L0 p') C l) : VpOk R.T (L0 p') C ((x, .vec 30, 30) :: l) :=
  vpOut (i := 30) (n := p.o) k (by exact rfl) (by show celV (2 * p'.o) co = _; rw [ho]) (by exact rfl) (by show 2 * p'.o = _; rw [ho]) (fun j _ => ⟨by show strL p (2 * j + 1) = strL p' (2 * j + 1); rw [strL_R, strL_R, hR], by show ivL p (1002 + 3 * j) = ivL p' (1002 + 3 * j); rw [ivL_R, ivL_R, hR]⟩)
noncomputable abbrev R0L (p : Lw) : Rl p := {}
theorem aRounds (h : Kt q) (hb : Base B μ 18000) : ∀ (k i : Nat) (a : Act) (w : World), i + k = nL' q → SA q i B w0 μ a w → Code.rounds Try.prog l5L (fun e a w => e = .exit 0 ∧ SB q B w0 μ a w) (k + 1) a w
  | 0, i, a, w, hi, s => by
    obtain rfl : i = nL' q := by omega
    have hx : (decide (nL' q < q.n1) && (decide (nL' q < q.n2) && decide (nL' q < 30))) = false := by
      rw [Bool.eq_false_iff]
      intro c
      simp only [Bool.and_eq_true, decide_eq_true_eq] at c
      unfold nL' at c
      omega
    refine rounds_of (wp_mono (Q := fun e a' w' => e = .exit 0 ∧ SB q B w0 μ a' w') ?_ (by rintro e a' w' ⟨rfl, s'⟩; exact ⟨rfl, s'⟩))
    rcases s with ⟨h0, s⟩ | ⟨h0, s⟩
    · refine wp_mono (runTo_sound (T := (RX (p := atI q (nL' q)) _ _ _ rfl rfl rfl).T) (T' := L0 (atB q 0 0 0)) mixed hNo (C := CL [(18001, 18001)] [(.map 0, 0), (.oi 40, 40)]) (ex := .exit 0) hb (by decide) (rl := [(18001, 18001)]) rfl (by kernel_rfl) (ipM (ipE (q := (.i64, q.K)) ipNil (by exact rfl) (by exact rfl)) (by exact rfl)) vpNil (fun g => glI (by exact rfl) (by exact rfl) (by exact rfl) (by exact rfl) (by exact rfl) (by exact rfl) g) (gLx0 _ _ _ _ _ _ hx) (St.same (Rl.same _) s)) ?_
      rintro e a' w' ⟨rfl, s'⟩
      exact ⟨rfl, .inl ⟨h0, s'⟩⟩
    · refine wp_mono (runTo_sound (T := (RX (p := atI q (nL' q)) _ _ _ rfl rfl rfl).T) (T' := L0 (atB q 0 0 0)) mixed hNo (C := CL [(18001, 18001), (18002, 18002)] [(.oi 6, 6), (.map 0, 0), (.oi 40, 40)]) (ex := .exit 0) hb (by decide) (rl := [(18001, 18001), (18002, 18002)]) rfl (by kernel_rfl) (ipE (q := (.i64, (nK q : Int))) (ipM (ipE (q := (.i64, q.K)) ipNil (by exact rfl) (by exact rfl)) (by exact rfl)) (by exact rfl) (by exact rfl)) (vKey' (by exact rfl) (by exact rfl) vpNil) (fun g => glI (by exact rfl) (by exact rfl) (by exact rfl) (by exact rfl) (by exact rfl) (by exact rfl) g) (gLx1 _ _ _ _ _ _ hx) (St.same (Rl.same _) s)) ?_
      rintro e a' w' ⟨rfl, s'⟩
      exact ⟨rfl, .inr ⟨h0, s'⟩⟩
  | k + 1, i, a, w, hi, s => by
    refine rounds_of (wp_mono (aRound h hb (by omega) s) ?_)
    rintro e a' w' ⟨rfl, s'⟩
    exact aRounds h hb k (i + 1) a' w' (by omega) s'
/- Top's own names -/
def pT (q : Lw) (E : List En × Nat) : Pm := { G := gi 0 (fun _ => (0, 0)) (fun _ => (.empty, 0)), N := 0, it := fun _ => 0, ita := fun _ => 0, itb := fun _ => 0, i0 := 0, n := 0, i := 0, j := 0, M := 0, ls := fun _ => 0, r := 0, K := q.K, o := q.o, R := q.R, mm := fun _ => E, sv := fun _ => (0, [], 0) }
theorem nK_lt : nK q < 100 := kN_lt (Nat.le_refl _)
theorem Fr'.len (h : Fr' q F) : F.length = nK q := by
  rw [h.pm.length_eq, List.length_map, List.length_range]
theorem Fr'.tin (h : Fr' q F) : TIn (pT q (eK q)) F := by
  have hl := h.len
  have hk := nK_lt (q := q)
  refine ⟨fun e => rfl, EF_txt, EF_born, EF_nd, ?_, h.sf, ?_, ⟨by omega, h.R⟩⟩
  · show ((List.range (nK q)).map _).length < 999998
    rw [List.length_map, List.length_range]; omega
  · show F.Perm ((EF (nK q) q.kt (vK' q)).1.map rowE)
    rw [EF_rows]; exact h.pm
theorem Fr'.out (h : Fr' q F) : (pT q (eK q)).o = outN (pT q (eK q)) F := h.o
theorem Fr'.tf (h : Fr' q F) {vi : Int} : TF (L0 (atB q i j vi)) (pT q (eK q)) F := by
  have ho : outN (pT q (eK q)) F = q.o := h.o.symm
  refine ⟨⟨rfl, by rw [ho]; rfl, by rw [ho]; rfl, by rw [ho]; rfl, fun m _ => ?_, fun m _ => ?_⟩, rfl⟩
  · exact strL_R _ m
  · exact ivL_R _ m
/-- a row that came out is in the map -/
theorem Fr'.row (h : Fr' q F) (hj : j < F.length) : ∃ m, m < nK q ∧ q.R j = (q.kt m, vK' q m) := by
  have h1 := h.R j hj
  have h2 : q.R j ∈ F := List.mem_of_getElem? h1
  obtain ⟨m, hm, e⟩ := List.mem_map.1 (h.pm.mem_iff.1 h2)
  exact ⟨m, List.mem_range.1 hm, e.symm⟩
theorem Fr'.lt (h : Fr' q F) {x y : Nat} (hxy : x < y) (hy : y < F.length) : Lt (q.R x) (q.R y) := by
  have e1 := h.R x (by omega)
  have e2 := h.R y hy
  have hp := List.pairwise_iff_getElem.1 h.sf x y (by omega) hy hxy
  rw [List.getElem?_eq_getElem (by omega)] at e1
  rw [List.getElem?_eq_getElem hy] at e2
  rw [Option.some.inj e1, Option.some.inj e2] at hp
  exact hp
theorem Fr'.map (h : Fr' q F) {m : Nat} (hm : m < nK q) : mapL (.s (q.kt m)) (eK q).1 = some (vK' q m) := EF_some hm rfl (h.kt.inj (Nat.le_refl _))
theorem Fr'.behind (h : Fr' q F) {m : Nat} (hm : m < nK q) (h0 : 0 < q.o) (hn : ∀ j, j < q.o → (q.R j).1 ≠ q.kt m) : Lt (q.R (q.o - 1)) (q.kt m, vK' q m) := by
  have ho := h.o
  have h1 : ((q.kt m, vK' q m) : Row) ∈ F := h.pm.mem_iff.2 (List.mem_map.2 ⟨m, List.mem_range.2 hm, rfl⟩)
  obtain ⟨y, hy, e⟩ := List.getElem_of_mem h1
  have e2 := h.R y hy
  rw [List.getElem?_eq_getElem hy, e] at e2
  have e3 := Option.some.inj e2
  have : q.o ≤ y := by
    rcases Nat.lt_or_ge y q.o with c | c
    · exact absurd (by rw [← e3]) (hn y c)
    · exact c
  rw [e3]
  exact h.lt (by omega) hy
end
end Go.Proofs.Ytnenjcehicaobaa.pf
