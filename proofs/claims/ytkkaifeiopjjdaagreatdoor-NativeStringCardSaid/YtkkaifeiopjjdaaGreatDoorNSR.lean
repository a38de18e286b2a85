/-
  The law NativeString: the cut as a contract; empty texts: contracts of making and reading them.
-/
import Derived.Test.YtkkaifeiopjjdaaGreatDoorNSO
set_option linter.unusedVariables false
set_option linter.unusedSimpArgs false
set_option linter.unusedSectionVars false
set_option maxRecDepth 1000000
set_option maxHeartbeats 0
namespace Go.Proofs.YtkkaifeiopjjdaaGreatDoor.ns
open Go.X Go.RowKit Go.Proofs
/-- how many chars there are ahead of the cut -/
structure Ct (p : Pm) : Prop where
  a : (p.fa ≤ 60 ∧ p.la = p.fa) ∨ (60 < p.fa ∧ p.la = 60 ∧ p.fa < 9223372036854775808)
  b : (p.fb ≤ 60 ∧ p.lb = p.fb) ∨ (60 < p.fb ∧ p.lb = 60 ∧ p.fb < 9223372036854775808)
noncomputable def foF (o : Nat) : AV := Nat.rec (.fo 0 32 1) (fun _ _ => .fo 1 33 1) o
noncomputable def foL (o : Nat) : AV := Nat.rec (.fo 0 0 1) (fun _ _ => .fo 1 1 1) o
noncomputable def cuI (o : Nat) : In := ⟨7, [foF o], 6644, [], foL o, 6644, []⟩
noncomputable abbrev RC0 (p : Pm) (h : p.la ≤ 60) : Rw (ivL p qZ 0) (vvL p qZ) (vkL p qZ) (fgL p) (txL p qZ 0) where
  vvp := vvLp p qZ
  ib := [(13, .oi 0, .int .i64 60, .bool false)]
  ibok := by as_aux_lemma => exact rGt ibNil
noncomputable abbrev RC1 (p : Pm) (h : p.lb ≤ 60) : Rw (ivL p qZ 0) (vvL p qZ) (vkL p qZ) (fgL p) (txL p qZ 0) where
  vvp := vvLp p qZ
  ib := [(13, .oi 1, .int .i64 60, .bool false)]
  ibok := by as_aux_lemma => exact rGt ibNil
noncomputable abbrev RD0 (p : Pm) (h : 60 < p.fa ∧ p.la = 60 ∧ p.fa < 9223372036854775808) : Rw (ivL p qZ 0) (vvL p qZ) (vkL p qZ) (fgL p) (txL p qZ 0) where
  vvp := vvLp p qZ
  ib := [(13, .oi 32, .int .i64 60, .bool true), (12, .oi 0, .oi 32, .bool true), (14, .oi 0, .int .i64 0, .bool true)]
  ibok := by
    obtain ⟨h1, h2, h3⟩ := h
    as_aux_lemma => exact rGt (rLe (rGe ibNil))
  vc := [(60, 0)]
  vcok := cN allNil (h := by rw [← h.2.1]; rfl)
noncomputable abbrev RD1 (p : Pm) (h : 60 < p.fb ∧ p.lb = 60 ∧ p.fb < 9223372036854775808) : Rw (ivL p qZ 0) (vvL p qZ) (vkL p qZ) (fgL p) (txL p qZ 0) where
  vvp := vvLp p qZ
  ib := [(13, .oi 33, .int .i64 60, .bool true), (12, .oi 1, .oi 33, .bool true), (14, .oi 1, .int .i64 0, .bool true)]
  ibok := by
    obtain ⟨h1, h2, h3⟩ := h
    as_aux_lemma => exact rGt (rLe (rGe ibNil))
  vc := [(60, 1)]
  vcok := cN allNil (h := by rw [← h.2.1]; rfl)
noncomputable def cuL (o : Nat) : In := ⟨7, [foL o], 6644, [], foL o, 6644, []⟩
/-- a slice whose length is told by another name -/
theorem InOk.fo {T : Tab} {f N N' : Nat} {i j j' : Nat} {v : AV} (e : T.iv j' = T.iv j) (o : @InOk Tryz.prog ⟨f, [.fo i j 1], N, [], v, N', []⟩ T) : @InOk Tryz.prog ⟨f, [.fo i j' 1], N, [], v, N', []⟩ T := by
  letI := T
  obtain ⟨h', k1, k2, k3⟩ := o.run
  refine ⟨o.lim, h', fun B w0 μ w args' r ha => k1 B w0 μ w args' r ?_, k2, k3⟩
  obtain ⟨x, l, e1, e2, e3⟩ := ha
  refine ⟨x, l, e1, ?_, e3⟩
  simp only [vrel] at e2 ⊢
  rw [← e]; exact e2
theorem cu0_ok {p : Pm} (c : Ct p) : @InOk Tryz.prog (cuI 0) (TL p) := by
  rcases c.a with ⟨h1, h2⟩ | h
  · have o : @InOk Tryz.prog (cuL 0) (RC0 p (by omega)).T := @InOk.of_run Tryz.prog (RC0 p (by omega)).T Hand.none mixed hNo 500 _ (by kernel_rfl) (by as_aux_lemma => kernel_rfl)
    exact InOk.fo (T := TL p) (j := 0) (by show ((IntKind.i64, (p.fa : Int)) : IntKind × Int) = (.i64, (p.la : Int)); rw [h2]) (InOk.tab (Rw.same _ _) o)
  · exact InOk.tab (Rw.same _ _) (@InOk.of_run Tryz.prog (RD0 p h).T Hand.none mixed hNo 500 (cuI 0) (by kernel_rfl) (by as_aux_lemma => kernel_rfl))
theorem cu1_ok {p : Pm} (c : Ct p) : @InOk Tryz.prog (cuI 1) (TL p) := by
  rcases c.b with ⟨h1, h2⟩ | h
  · have o : @InOk Tryz.prog (cuL 1) (RC1 p (by omega)).T := @InOk.of_run Tryz.prog (RC1 p (by omega)).T Hand.none mixed hNo 500 _ (by kernel_rfl) (by as_aux_lemma => kernel_rfl)
    exact InOk.fo (T := TL p) (j := 1) (by show ((IntKind.i64, (p.fb : Int)) : IntKind × Int) = (.i64, (p.lb : Int)); rw [h2]) (InOk.tab (Rw.same _ _) o)
  · exact InOk.tab (Rw.same _ _) (@InOk.of_run Tryz.prog (RD1 p h).T Hand.none mixed hNo 500 (cuI 1) (by kernel_rfl) (by as_aux_lemma => kernel_rfl))
end Go.Proofs.YtkkaifeiopjjdaaGreatDoor.ns
