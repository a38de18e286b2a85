/-
  The law ProfileTop: names and counts that came in.
-/
import Derived.Test.YtnenjcehicaobaaPGM
set_option linter.unusedVariables false
set_option linter.unusedSimpArgs false
set_option linter.unusedSectionVars false
set_option maxRecDepth 1000000
set_option maxHeartbeats 0
namespace Go.Proofs.Ytnenjcehicaobaa.pf
open Go.X Go.RowKit Go.Proofs
section
variable {q : Lw} {B : Kp} {w0 : World} {μ : M} {a : Act} {w : World} {i j : Nat} {vi : Int} {F : List Row}
theorem resL : results? Try.prog Try.f3 (frOf [(6, .bool true)]) (hOf 21000 []) = some (.bool true) := by as_aux_lemma => kernel_rfl
theorem glZ {p p' : Lw} {B : Kp} {w : World} (h1 : p'.n1 = p.n1) (h2 : p'.n2 = p.n2) (h3 : p'.a1 = p.a1) (h4 : p'.a2 = p.a2) (h5 : p'.e1 = p.e1) (h6 : p'.e2 = p.e2) (g : @Gl (L0 p) B w) : @Gl (L0 p') B w := glL h1 h2 h3 h4 h5 h6 g
theorem bEnd (h : Fr' q F) (hb : Base B μ 18000) (s : SB q B w0 μ a w) : (restn 6 lC).wp Try.prog (fun e a' w' => e = .ret ∧ St (L0 (atI q 0)) B w0 μ ntL (frOf [(6, .bool true)]) (hOf 21000 []) a' w') a w := by
  have ho := h.o
  have hl := h.len
  have hou : outN (pT q (eK q)) F = q.o := h.o.symm
  rw [l6_eq]
  rcases s with ⟨h0, s⟩ | ⟨h0, s⟩
  · have hz : outN (pT q (eK q)) F = 0 := by rw [hou]; omega
    refine wp_seq (wp_mono (runTo_sound (T := L0 (atB q 0 0 0)) (T' := L0 (atB q 0 0 0)) mixed (inH (tI0_ok h.tin h.out h.tf hz) tLim) (C := CG [] [(.oi 40, 40)]) (ex := .normal) hb (show 18000 ≤ 21000 by decide) (rl := []) rfl (by kernel_rfl) (ipE (q := (.i64, q.K)) ipNil (by exact rfl) (by exact rfl)) vpNil (fun g => g) (gTA _) s) ?_)
    rintro e a1 w1 ⟨rfl, s1⟩
    show (restn 7 lC).wp _ _ _ _
    refine wp_mono (runTo_sound (T := (RZA (p := atB q 0 0 0) _ rfl).T) (T' := L0 (atI q 0)) mixed hNo (C := CG [] []) (ex := .ret) hb (show 18000 ≤ 21000 by decide) (rl := []) rfl (by kernel_rfl) ipNil vpNil (fun g => glI (by exact rfl) (by exact rfl) (by exact rfl) (by exact rfl) (by exact rfl) (by exact rfl) g) (gZA _ _) (St.same (Rl.same _) s1)) ?_
    rintro e a2 w2 ⟨rfl, s2⟩
    exact ⟨rfl, s2⟩
  · by_cases hz : q.o = 0
    · have hz' : outN (pT q (eK q)) F = 0 := by rw [hou]; exact hz
      have hK : q.K ≤ 0 := by omega
      refine wp_seq (wp_mono (runTo_sound (T := L0 (atB q 0 0 0)) (T' := L0 (atB q 0 0 0)) mixed (inH (tI0_ok h.tin h.out h.tf hz') tLim) (C := CG [(18002, 18002)] [(.oi 6, 6), (.oi 40, 40)]) (ex := .normal) hb (show 18000 ≤ 21000 by decide) (rl := [(18002, 18002)]) rfl (by kernel_rfl) (ipE (q := (.i64, (nK q : Int))) (ipE (q := (.i64, q.K)) ipNil (by exact rfl) (by exact rfl)) (by exact rfl) (by exact rfl)) (vKey' (R := R0L (atB q 0 0 0)) (by exact rfl) (by exact rfl) vpNil) (fun g => g) (gTB _) s) ?_)
      rintro e a1 w1 ⟨rfl, s1⟩
      show (restn 7 lC).wp _ _ _ _
      refine wp_mono (runTo_sound (T := (RZB (p := atB q 0 0 0) hK h0).T) (T' := L0 (atI q 0)) mixed hNo (C := CG [] []) (ex := .ret) hb (show 18000 ≤ 21000 by decide) (rl := []) rfl (by kernel_rfl) ipNil vpNil (fun g => glI (by exact rfl) (by exact rfl) (by exact rfl) (by exact rfl) (by exact rfl) (by exact rfl) g) (gZB (p := atB q 0 0 0) hK h0) (St.same (Rl.same _) s1)) ?_
      rintro e a2 w2 ⟨rfl, s2⟩
      exact ⟨rfl, s2⟩
    · have hz : 0 < q.o := Nat.pos_of_ne_zero hz
      have hK : 0 < q.K := by omega
      refine wp_seq (wp_mono (runTo_sound (T := L0 (atB q 0 0 0)) (T' := L0 (atB q 0 0 0)) mixed (inH (tI1_ok h.tin h.out h.tf (by rw [hou]; exact hz)) tLim) (C := CG rlG ((.oi 40, 40) :: iG)) (ex := .normal) hb (show 18000 ≤ 21000 by decide) (rl := rlG) rfl (by kernel_rfl) (ipE (q := (.i64, q.K)) (iG_ok (R := R0L _)) (by exact rfl) (by exact rfl)) (vG_ok (R := R0L _)) (fun g => g) (gTC _) s) ?_)
      rintro e a1 w1 ⟨rfl, s1⟩
      show (restn 7 lC).wp _ _ _ _
      rw [l7_eq]
      have key : l7.wp Try.prog (fun e a' w' => e = .normal ∧ St (L0 (atB q 0 0 0)) B w0 μ ntL (frOf fsC5) (hOf 21000 bsG) a' w') a1 w1 := by
        by_cases c : (nK q : Int) < q.K
        · exact goB (i' := 0) (j' := 0) (vi' := 0) (R := RW (p := atB q 0 0 0) true h0 hK (decide_eq_true c)) hb hNo (ipZ (a := (nK q : Int)) (b := (q.o : Int)) (q := .i64) (ipE (q := (.i64, q.K)) iG_ok (by exact rfl) (by exact rfl)) (by exact rfl) (by exact rfl) (by omega)) (gWt (p := atB q 0 0 0) h0 hK (decide_eq_true c)) s1
        · exact goB (i' := 0) (j' := 0) (vi' := 0) (R := RW (p := atB q 0 0 0) false h0 hK (decide_eq_false c)) hb hNo (ipZ (a := q.K) (b := (q.o : Int)) (q := .i64) (ipE (q := (.i64, q.K)) iG_ok (by exact rfl) (by exact rfl)) (by exact rfl) (by exact rfl) (by omega)) (gWf (p := atB q 0 0 0) h0 hK (decide_eq_false c)) s1
      refine wp_seq (wp_mono key ?_)
      rintro e a2 w2 ⟨rfl, s2⟩
      show (restn 8 lC).wp _ _ _ _
      rw [l8_eq]
      refine wp_seq (wp_mono (goB (i' := 0) (j' := 0) (vi' := 0) (R := RV8 _) hb hNo iG_ok (gV8 _) s2) ?_)
      rintro e a3 w3 ⟨rfl, s3⟩
      show (restn 9 lC).wp _ _ _ _
      rw [l9_eq]
      refine wp_seq (wp_seq (wp_mono (goB (i' := 0) (j' := 0) (vi' := 0) (R := R0L _) hb hNo (ipK' (b := ((0 : Nat) : Int)) iG_ok (by exact rfl) rfl) (gD0 _) s3) ?_))
      rintro e a4 w4 ⟨rfl, s4⟩
      show (Code.block 2 (.loop l9L)).wp _ _ _ _
      refine wp_block (wp_mono (wp_loop_rounds (Q := fun e a w => e = .exit 2 ∧ SG q B w0 μ a w) (q.o + 1) (dRounds2 h hb q.o 0 a4 w4 (by omega) s4)) ?_)
      rintro e a5 w5 ⟨rfl, s5⟩
      show (restn 10 lC).wp _ _ _ _
      rw [l10_eq]
      refine wp_seq (wp_seq (wp_mono (goB (i' := 0) (j' := 0) (vi' := vK' q 0) (R := R0L _) hb hNo (ipK' (b := ((0 : Nat) : Int)) iG_ok (by exact rfl) rfl) (gE0 _) s5) ?_))
      rintro e a6 w6 ⟨rfl, s6⟩
      show (Code.block 4 (.loop l10L)).wp _ _ _ _
      refine wp_block (wp_mono (wp_loop_rounds (Q := fun e a w => e = .exit 4 ∧ St (L0 (atB q 0 0 0)) B w0 μ ntL (frOf [(7, .bool true)]) (hOf 21000 []) a w) (nK q + 1) (eRounds h hb hz (nK q) 0 a6 w6 (by omega) s6)) ?_)
      rintro e a7 w7 ⟨rfl, s7⟩
      show (restn 11 lC).wp _ _ _ _
      refine wp_mono (runTo_sound (T := (R0L (atB q 0 0 0)).T) (T' := L0 (atI q 0)) mixed hNo (C := CG [] []) (ex := .ret) hb (show 18000 ≤ 21000 by decide) (rl := []) rfl (by kernel_rfl) ipNil vpNil (fun g => glI (by exact rfl) (by exact rfl) (by exact rfl) (by exact rfl) (by exact rfl) (by exact rfl) g) (gEnd _) (St.same (Rl.same _) s7)) ?_
      rintro e a8 w8 ⟨rfl, s8⟩
      exact ⟨rfl, s8⟩
theorem lAll (h : Fr' q F) : @CallOk (L0 (atI q 0)) Try.prog 3 [.fo 0 0 1, .fo 1 1 1, .oi 40] H.empty (.bool true, hOf 21000 []) := by
  letI : Tab := L0 (atI q 0)
  refine callOk_of (fn := Try.f3) Try.func3 lC_eq (show 3 ≤ Try.f3.ntmps by decide +kernel) (show 3 < limit by decide) fun B w0 μ a0 w hb s => ?_
  have hb : Base B μ 18000 := baseUp hb (by show 0 ≤ 18000; decide)
  refine firstTo_sound (T := L0 (atI q 0)) (T' := L0 (atI q 0)) (n := 5) mixed (K := begunH) begunH_ok (C := CL [(18001, 0)] ((.nilm, 0) :: iLw)) (rl := [(18001, 0)]) (fs := fsA .nils) (bs := bsA0 0)
    hb (by decide) rfl (by kernel_rfl) (ipCons (show (L0 (atI q 0)).mm 0 = ([], 0) from rfl) (iLw_ok (x := (q.n1 : Int)) (y := (q.n2 : Int)) (z := q.K) rfl rfl rfl rfl rfl rfl rfl rfl rfl rfl)) vpNil (fun g => g) (gL0 _) s fun a1 w1 s1 => ?_
  rw [l5_eq, l5_in]
  refine wp_seq (wp_seq (wp_mono (runTo_sound (T := L0 (atI q 0)) (T' := L0 (atI q 0)) mixed hNo (C := CL [(18001, 18001)] ((.int .i64 0, 2) :: (.map 0, 0) :: iLw)) (ex := .normal) hb (by decide) (rl := [(18001, 18001)]) rfl (by kernel_rfl) (ipK' (b := ((0 : Nat) : Int)) (ipM (iLw_ok (x := (q.n1 : Int)) (y := (q.n2 : Int)) (z := q.K) rfl rfl rfl rfl rfl rfl rfl rfl rfl rfl)) (by exact rfl) rfl) vpNil (fun g => g) (gL1 _) s1) ?_))
  rintro e a2 w2 ⟨rfl, s2⟩
  show (Code.block 0 (.loop l5L)).wp _ _ _ _
  refine wp_block (wp_mono (wp_loop_rounds (Q := fun e a w => e = .exit 0 ∧ SB q B w0 μ a w) (nL' q + 1) (aRounds h.kt hb (nL' q) 0 a2 w2 (by omega) (.inl ⟨rfl, s2⟩))) ?_)
  rintro e a3 w3 ⟨rfl, s3⟩
  show (restn 6 lC).wp _ _ _ _
  refine wp_mono (bEnd h hb s3) ?_
  rintro e a4 w4 ⟨rfl, s4⟩
  exact St.done (τ := L0 (atI q 0)) (e := .ret) (.inr rfl) resL s4
end
end Go.Proofs.Ytnenjcehicaobaa.pf
