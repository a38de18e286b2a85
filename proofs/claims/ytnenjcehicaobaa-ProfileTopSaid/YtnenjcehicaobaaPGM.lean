/-
  The law ProfileTop: what came out is looked at.
-/
import Derived.Test.YtnenjcehicaobaaPGL
set_option linter.unusedVariables false
set_option linter.unusedSimpArgs false
set_option linter.unusedSectionVars false
set_option maxRecDepth 1000000
set_option maxHeartbeats 0
namespace Go.Proofs.Ytnenjcehicaobaa.pf
open Go.X Go.RowKit Go.Proofs
section
variable {q : Lw} {B : Kp} {w0 : World} {μ : M} {a : Act} {w : World} {i j : Nat} {vi : Int} {F : List Row}
def SG (q : Lw) (B : Kp) (w0 : World) (μ : M) (a : Act) (w : World) : Prop := St (L0 (atB q 0 0 0)) B w0 μ ntL (frOf fsG) (hOf 21000 bsG) a w
def SDd (q : Lw) (j : Nat) (B : Kp) (w0 : World) (μ : M) (a : Act) (w : World) : Prop := St (L0 (atB q 0 j 0)) B w0 μ ntL (frOf fsDd) (hOf 21000 bsG) a w
def SEi (q : Lw) (i : Nat) (vi : Int) (B : Kp) (w0 : World) (μ : M) (a : Act) (w : World) : Prop := St (L0 (atB q i 0 vi)) B w0 μ ntL (frOf fsE) (hOf 21000 bsG) a w
def SIi (q : Lw) (i j : Nat) (vi : Int) (b : Bool) (B : Kp) (w0 : World) (μ : M) (a : Act) (w : World) : Prop := St (L0 (atB q i j vi)) B w0 μ ntL (frOf (fsI b)) (hOf 21000 bsG) a w
def SJi (q : Lw) (i : Nat) (vi : Int) (b : Bool) (B : Kp) (w0 : World) (μ : M) (a : Act) (w : World) : Prop := St (L0 (atB q i 0 vi)) B w0 μ ntL (frOf (fsJ b)) (hOf 21000 bsG) a w
theorem iG_ok {i j i' j' : Nat} {vi vi' : Int} {R : Rl (atB q i j vi)} : IpOk R.T (L0 (atB q i' j' vi')) iG := ipE (q := (.i64, (nK q : Int))) (ipE (q := (.i64, (q.o : Int))) (ipM ipNil (by exact rfl)) (by exact rfl) (by exact rfl)) (by exact rfl) (by exact rfl)
theorem vG_ok {i j i' j' : Nat} {vi vi' : Int} {R : Rl (atB q i j vi)} {C : Cv} : VpOk R.T (L0 (atB q i' j' vi')) C vG := vKey' (by exact rfl) (by exact rfl) (vOut' (by exact rfl) (by exact rfl) vpNil)
theorem glB {i j i' j' : Nat} {vi vi' : Int} {R : Rl (atB q i j vi)} {B : Kp} {w : World} (g : @Gl R.T B w) : @Gl (L0 (atB q i' j' vi')) B w := glI (by exact rfl) (by exact rfl) (by exact rfl) (by exact rfl) (by exact rfl) (by exact rfl) g
theorem rkG (ip : IP) : okRn (CG rlG ip) rlG = true := by kernel_rfl
/-- one run between such states -/
theorem goB {i j i' j' : Nat} {vi vi' : Int} {R : Rl (atB q i j vi)} {K : Hand} {c : Code} {ip : IP} {fs fs' : List (Nat × AV)} {ex : Ex} (hb : Base B μ 18000) (hK : @HandOk R.T Try.prog K) (hip : IpOk R.T (L0 (atB q i' j' vi')) ip)
    (e : runTo R.T Try.prog K 3000 ntL c (frOf fs) (hOf 21000 bsG) ex (CG rlG ip) vG fs' bsG = true) (s : St (L0 (atB q i j vi)) B w0 μ ntL (frOf fs) (hOf 21000 bsG) a w) :
    c.wp Try.prog (fun x a' w' => x = ex.to ∧ St (L0 (atB q i' j' vi')) B w0 μ ntL (frOf fs') (hOf 21000 bsG) a' w') a w :=
  runTo_sound (T := R.T) (T' := L0 (atB q i' j' vi')) mixed hK (C := CG rlG ip) (ex := ex) hb (show 18000 ≤ 21000 by decide) (rl := rlG) rfl (rkG ip) hip vG_ok (fun g => glB g) e (St.same (Rl.same _) s)
theorem dRounds2 (h : Fr' q F) (hb : Base B μ 18000) : ∀ (k j : Nat) (a : Act) (w : World), j + k = q.o → SDd q j B w0 μ a w → Code.rounds Try.prog l9L (fun e a w => e = .exit 2 ∧ SG q B w0 μ a w) (k + 1) a w
  | 0, j, a, w, hj, s => by
    refine rounds_of (wp_mono (goB (i' := 0) (j' := 0) (vi' := 0) (R := RDx (p := atB q 0 j 0) (by show ¬ j < q.o; omega)) hb hNo iG_ok (gD3 _) s) ?_)
    rintro e a' w' ⟨rfl, s'⟩
    exact ⟨rfl, s'⟩
  | k + 1, j, a, w, hj, s => by
    have ho := h.o
    have hl := h.len
    have hk := nK_lt (q := q)
    obtain ⟨m, m1, m2⟩ := h.row (j := j) (by omega)
    have hD : Dj (atB q 0 j 0) := by
      refine ⟨by show j < q.o; omega, by show q.o < 1000; omega, EF_txt, ?_⟩
      show mapL (.s (q.R j).1) (eK q).1 = some (q.R j).2
      rw [m2]; exact h.map m1
    have key : l9L.wp Try.prog (fun e a' w' => e = .normal ∧ SDd q (j + 1) B w0 μ a' w') a w := by
      by_cases h0 : j = 0
      · exact goB (i' := 0) (j' := j + 1) (vi' := 0) (R := RD0 (p := atB q 0 j 0) hD h0) hb hNo (ipE (q := (.i64, ((j + 1 : Nat) : Int))) iG_ok (by exact rfl) (by exact rfl)) (gD1 hD h0) s
      · have h0 : 0 < (atB q 0 j 0).j := Nat.pos_of_ne_zero h0
        exact goB (i' := 0) (j' := j + 1) (vi' := 0) (R := RD1' (p := atB q 0 j 0) hD h0) hb (ahH_ok (a := q.R (j - 1)) (b := q.R j) (h.lt (by have : 0 < j := h0; omega) (by omega)) (by exact rfl) (by exact rfl) (by exact rfl) (by exact rfl)) (ipE (q := (.i64, ((j + 1 : Nat) : Int))) iG_ok (by exact rfl) (by exact rfl)) (gD2 hD h0) s
    refine rounds_of (wp_mono key ?_)
    rintro e a' w' ⟨rfl, s'⟩
    exact dRounds2 h hb k (j + 1) a' w' (by omega) s'
/-- is the key among those that came out before? -/
noncomputable def inB (q : Lw) (i j : Nat) : Bool := @decide (∃ m, m < j ∧ (q.R m).1 = q.kt i) (Classical.propDecidable _)
theorem inB_zero : inB q i 0 = false := by
  unfold inB
  rw [@decide_eq_false_iff_not _ (Classical.propDecidable _)]
  rintro ⟨m, hm, _⟩; omega
theorem inB_succ {t : Bool} (ht : t = true ↔ (q.R j).1 = q.kt i) : inB q i (j + 1) = (inB q i j || t) := by
  rw [Bool.eq_iff_iff, Bool.or_eq_true]
  unfold inB
  rw [@decide_eq_true_iff _ (Classical.propDecidable _), @decide_eq_true_iff _ (Classical.propDecidable _), ht]
  constructor
  · rintro ⟨m, hm, e⟩
    by_cases c : m = j
    · subst c; exact .inr e
    · exact .inl ⟨m, by omega, e⟩
  · rintro (⟨m, hm, e⟩ | e)
    · exact ⟨m, by omega, e⟩
    · exact ⟨j, by omega, e⟩
theorem iRounds (h : Fr' q F) (hb : Base B μ 18000) (hi : i < nK q) : ∀ (k j : Nat) (a : Act) (w : World), j + k = q.o → SIi q i j vi (inB q i j) B w0 μ a w → Code.rounds Try.prog xL (fun e a w => e = .exit 6 ∧ SJi q i vi (inB q i q.o) B w0 μ a w) (k + 1) a w
  | 0, j, a, w, hj, s => by
    obtain rfl : j = q.o := by omega
    refine rounds_of (wp_mono (goB (i' := i) (j' := 0) (vi' := vi) (R := RDx (p := atB q i q.o vi) (by show ¬ q.o < q.o; omega)) hb hNo (ipE (q := (.i64, (i : Int))) iG_ok (by exact rfl) (by exact rfl)) (gIx _ _) s) ?_)
    rintro e a' w' ⟨rfl, s'⟩
    exact ⟨rfl, s'⟩
  | k + 1, j, a, w, hj, s => by
    have ho := h.o
    have hl := h.len
    have hk := nK_lt (q := q)
    obtain ⟨t, ht⟩ : ∃ t : Bool, t = true ↔ (q.R j).1 = q.kt i := by
      rcases Classical.em ((q.R j).1 = q.kt i) with c | c
      · exact ⟨true, by simp [c]⟩
      · exact ⟨false, by simp [c]⟩
    have key : xL.wp Try.prog (fun e a' w' => e = .normal ∧ SIi q i (j + 1) vi (inB q i (j + 1)) B w0 μ a' w') a w := by
      rw [inB_succ ht]
      exact goB (i' := i) (j' := j + 1) (vi' := vi) (R := RI (p := atB q i j vi) t hi (by show j < q.o; omega) (by show q.o < 1000; omega) ht) hb hNo (ipE (q := (.i64, ((j + 1 : Nat) : Int))) (ipE (q := (.i64, (i : Int))) iG_ok (by exact rfl) (by exact rfl)) (by exact rfl) (by exact rfl)) (gI _ t hi (by show j < q.o; omega) (by show q.o < 1000; omega) ht) s
    refine rounds_of (wp_mono key ?_)
    rintro e a' w' ⟨rfl, s'⟩
    exact iRounds h hb hi k (j + 1) a' w' (by omega) s'
theorem eRounds (h : Fr' q F) (hb : Base B μ 18000) (h0 : 0 < q.o) : ∀ (k i : Nat) (a : Act) (w : World), i + k = nK q → SEi q i (vK' q i) B w0 μ a w → Code.rounds Try.prog l10L (fun e a w => e = .exit 4 ∧ St (L0 (atB q 0 0 0)) B w0 μ ntL (frOf [(7, .bool true)]) (hOf 21000 []) a w) (k + 1) a w
  | 0, i, a, w, hi, s => by
    refine rounds_of (wp_mono (Q := fun e a w => e = .exit 4 ∧ St (L0 (atB q 0 0 0)) B w0 μ ntL (frOf [(7, .bool true)]) (hOf 21000 []) a w) ?_ (by rintro e a' w' ⟨rfl, s'⟩; exact ⟨rfl, s'⟩))
    rw [l10L_in]
    refine wp_seq (wp_mono (runTo_sound (T := (RE (p := atB q i 0 (vK' q i)) false (decide_eq_false (by show ¬ i < nK q; omega)) h0).T) (T' := L0 (atB q 0 0 0)) mixed hNo (C := CG [] []) (ex := .exit 4) hb (show 18000 ≤ 21000 by decide) (rl := []) rfl (by kernel_rfl) ipNil vpNil (fun g => glB g) (gEx (p := atB q i 0 (vK' q i)) _ h0) (St.same (Rl.same _) s)) ?_)
    rintro e a' w' ⟨rfl, s'⟩
    exact ⟨rfl, s'⟩
  | k + 1, i, a, w, hi, s => by
    have ho := h.o
    have hl := h.len
    have hk := nK_lt (q := q)
    have hin : i < nK q := by omega
    have ip2 : ∀ {R : Rl (atB q i 0 (vK' q i))}, IpOk R.T (L0 (atB q i 0 (vK' q i))) iE := ipE (q := (.i64, (i : Int))) iG_ok (by exact rfl) (by exact rfl)
    have key : l10L.wp Try.prog (fun e a' w' => e = .normal ∧ SEi q (i + 1) (vK' q (i + 1)) B w0 μ a' w') a w := by
      rw [l10L_in]
      refine wp_seq (wp_mono (goB (i' := i) (j' := 0) (vi' := vK' q i) (R := RE (p := atB q i 0 (vK' q i)) true (decide_eq_true hin) h0) hb hNo ip2 (gEt (p := atB q i 0 (vK' q i)) _ h0) s) ?_)
      rintro e a1 w1 ⟨rfl, s1⟩
      show (Code.seq (.block 5 l10x) l10z).wp _ _ _ _
      refine wp_seq (wp_block ?_)
      rw [l10x_in]
      refine wp_seq (wp_mono (goB (i' := i) (j' := 0) (vi' := vK' q i) (R := R0L _) hb hNo ip2 (gF0 _) s1) ?_)
      rintro e a2 w2 ⟨rfl, s2⟩
      show (Code.seq (.seq x1 (.block 6 (.loop xL))) x2).wp _ _ _ _
      refine wp_seq (wp_seq (wp_mono (goB (i' := i) (j' := 0) (vi' := vK' q i) (R := R0L _) hb hNo (ipK' (b := ((0 : Nat) : Int)) ip2 (by exact rfl) rfl) (gF1 _) s2) ?_))
      rintro e a3 w3 ⟨rfl, s3⟩
      show (Code.block 6 (.loop xL)).wp _ _ _ _
      refine wp_block (wp_mono (wp_loop_rounds (Q := fun e a w => e = .exit 6 ∧ SJi q i (vK' q i) (inB q i q.o) B w0 μ a w) (q.o + 1) (iRounds h hb hin q.o 0 a3 w3 (by omega) (by rw [inB_zero]; exact s3))) ?_)
      rintro e a4 w4 ⟨rfl, s4⟩
      show x2.wp _ _ _ _
      have fin : x2.wp Try.prog (fun e a' w' => e = .normal ∧ SEi q i (vK' q i) B w0 μ a' w') a4 w4 := by
        cases hin' : inB q i q.o with
        | true =>
          rw [hin'] at s4
          exact goB (i' := i) (j' := 0) (vi' := vK' q i) (R := R0L _) hb hNo ip2 (gJt _) s4
        | false =>
          rw [hin'] at s4
          have hno : ∀ j, j < q.o → (q.R j).1 ≠ q.kt i := fun j hj c => by
            unfold inB at hin'
            rw [@decide_eq_false_iff_not _ (Classical.propDecidable _)] at hin'
            exact hin' ⟨j, hj, c⟩
          exact goB (i' := i) (j' := 0) (vi' := vK' q i) (R := RJ (p := atB q i 0 (vK' q i)) hin h0 (by show q.o < 1000; omega) EF_txt (h.map hin)) hb (ahH_ok (a := q.R (q.o - 1)) (b := (q.kt i, vK' q i)) (h.behind hin h0 hno) (by exact rfl) (by exact rfl) (by exact rfl) (by exact rfl)) ip2 (gJf (p := atB q i 0 (vK' q i)) hin h0 (by show q.o < 1000; omega) EF_txt (h.map hin)) s4
      refine wp_mono fin ?_
      rintro e a5 w5 ⟨rfl, s5⟩
      show l10z.wp _ _ _ _
      refine wp_mono (goB (i' := i + 1) (j' := 0) (vi' := vK' q (i + 1)) (R := RK (p := atB q i 0 (vK' q i)) (by show i < 1000; omega)) hb hNo (ipE (q := (.i64, ((i + 1 : Nat) : Int))) iG_ok (by exact rfl) (by exact rfl)) (gK _) s5) ?_
      rintro e a6 w6 ⟨rfl, s6⟩
      exact ⟨rfl, s6⟩
    refine rounds_of (wp_mono key ?_)
    rintro e a' w' ⟨rfl, s'⟩
    exact eRounds h hb h0 k (i + 1) a' w' (by omega) s'
end
end Go.Proofs.Ytnenjcehicaobaa.pf
