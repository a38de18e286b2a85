/-
  The laws of profile: container/heap's down: runs.
-/
import Derived.Test.YtnenjcehicaobaaPFD
set_option linter.unusedVariables false
set_option linter.unusedSimpArgs false
set_option linter.unusedSectionVars false
set_option maxRecDepth 1000000
set_option maxHeartbeats 0
namespace Go.Proofs.Ytnenjcehicaobaa.pf
open Go.X Go.RowKit Go.Proofs
noncomputable abbrev rfD (l : List (Nat × Nat × Nat × Nat)) : List (Nat × Nat × Nat × Nat) := (1, 1, 1004, 2) :: (2, 2, 1007, 2) :: l
noncomputable abbrev flD (l : List VL) : List VL := ⟨1, 10, 2, 0, [.ostr 2, .oi 1003]⟩ :: ⟨2, 10, 2, 0, [.ostr 4, .oi 1006]⟩ :: l
theorem vc0 {p : Pm} : ∀ q ∈ ([(0, 10)] : List (Nat × Nat)), ivP p q.2 = (.i64, (q.1 : Int)) := allCons (by exact rfl) (fun _ h => nomatch h)
section
variable {p : Pm}
/-- there is no child -/
noncomputable abbrev RDe (h : Dok p) (h0 : ¬ 2 * p.i + 1 < p.n) : Rz p where
  ib := rwD0 true ++ []
  ibok := rwD0_ok (t := true) h.i (decide_eq_false h0) ibNil
/-- one child -/
noncomputable abbrev RD1 (t : Bool) (h : Dok p) (h0 : 2 * p.i + 1 < p.n) (h1 : ¬ 2 * p.i + 2 < p.n) (hj : p.j = 2 * p.i + 1) (ht : lessI p.G (p.it p.j) (p.it p.i) = t) : Rz p where
  ib := rwD0 false ++ (rwD1 false ++ (rwJ t ++ []))
  ibok := rwD0_ok (t := false) h.i (decide_eq_true h0) (rwD1_ok h h0 (decide_eq_false h1) (rwJ_ok ht ibNil))
  vl := vlD ++ []
  vlok := vlD_ok h h0 (fun _ h => nomatch h)
  vs := vsD 2 5
  vsok := vsD_ok h h0 (by omega) (by show p.it (2 * p.i + 1) = _; rw [hj]) (by show ((IntKind.i64, ((2 * p.i + 1 : Nat) : Int)) : IntKind × Int) = _; rw [hj])
  rf := rfD []
  rfok := rfC h.g (by exact rfl) (al1 h h0) (rfC h.g (by exact rfl) (al2 h h0) (fun _ h => nomatch h))
  fl := flD []
  flok := flC rfl rfl (al1 h h0) (flC rfl rfl (al2 h h0) (fun _ h => nomatch h))
  vc := [(0, 10)]
  vcok := vc0
/-- two children -/
noncomputable abbrev RD2 (s t : Bool) (J k : Nat) (h : Dok p) (h0 : 2 * p.i + 1 < p.n) (h1 : 2 * p.i + 2 < p.n) (hs : lessI p.G (p.it (2 * p.i + 2)) (p.it (2 * p.i + 1)) = s) (hj : p.j < p.n) (hJ : p.al J = p.it p.j) (hk : ivP p k = (.i64, (p.j : Int))) (ht : lessI p.G (p.it p.j) (p.it p.i) = t) : Rz p where
  ib := rwD0 false ++ (rwD1 true ++ (rwD2 ++ (rwL s ++ (rwJ t ++ []))))
  ibok := rwD0_ok (t := false) h.i (decide_eq_true h0) (rwD1_ok h h0 (decide_eq_true h1) (rwD2_ok h h1 (rwL_ok hs (rwJ_ok ht ibNil))))
  vl := vlD ++ (vlD3 ++ [])
  vlok := vlD_ok h h0 (vlD3_ok h h1 (fun _ h => nomatch h))
  vs := vsD J k
  vsok := vsD_ok h h0 hj hJ hk
  rf := rfD [(3, 3, 1010, 2)]
  rfok := rfC h.g (by exact rfl) (al1 h h0) (rfC h.g (by exact rfl) (al2 h h0) (rfC h.g (by exact rfl) (al3 h h1) (fun _ h => nomatch h)))
  fl := flD [⟨3, 10, 2, 0, [.ostr 6, .oi 1009]⟩]
  flok := flC rfl rfl (al1 h h0) (flC rfl rfl (al2 h h0) (flC rfl rfl (al3 h h1) (fun _ h => nomatch h)))
  vc := [(0, 10)]
  vcok := vc0
end
noncomputable abbrev K21 : Hand := cmpH 4 1006 2 1003 9
noncomputable abbrev K31 : Hand := cmpH 6 1009 2 1003 9
noncomputable abbrev K32 : Hand := cmpH 6 1009 4 1006 8
noncomputable abbrev ipD : IP := [(.oi 0, 0), (.oi 1, 1), (.oi 7, 7)]
noncomputable abbrev CD (i : Nat) : Cv := ⟨20010, 20010, ofPairs [], (.oi i, 3) :: ipD⟩
noncomputable abbrev vpD (v : Nat) : VP := [(20002, .vec v, 10)]
theorem gDe {p : Pm} (h : Dok p) (h0 : ¬ 2 * p.i + 1 < p.n) : runTo (RDe h h0).T Try.prog Hand.none 3000 ntD dL (frOf fsD) (hOf 20010 (bsD 10)) (.exit 0) (CD 3) (vpD 10) fsD (bsD 10) = true := by as_aux_lemma => kernel_rfl
theorem gD1t {p : Pm} (h : Dok p) (h0 : 2 * p.i + 1 < p.n) (h1 : ¬ 2 * p.i + 2 < p.n) (hj : p.j = 2 * p.i + 1) (ht : lessI p.G (p.it p.j) (p.it p.i) = true) : runTo (RD1 true h h0 h1 hj ht).T Try.prog K21 3000 ntD dL (frOf fsD) (hOf 20010 (bsD 10)) .normal (CD 5) (vpD 14) fsD (bsD 10) = true := by as_aux_lemma => kernel_rfl
theorem gD1f {p : Pm} (h : Dok p) (h0 : 2 * p.i + 1 < p.n) (h1 : ¬ 2 * p.i + 2 < p.n) (hj : p.j = 2 * p.i + 1) (ht : lessI p.G (p.it p.j) (p.it p.i) = false) : runTo (RD1 false h h0 h1 hj ht).T Try.prog K21 3000 ntD dL (frOf fsD) (hOf 20010 (bsD 10)) (.exit 0) (CD 3) (vpD 10) fsD (bsD 10) = true := by as_aux_lemma => kernel_rfl
theorem gD2tt {p : Pm} (h : Dok p) (h0 : 2 * p.i + 1 < p.n) (h1 : 2 * p.i + 2 < p.n) (hs : lessI p.G (p.it (2 * p.i + 2)) (p.it (2 * p.i + 1)) = true) (hj : p.j < p.n) (hJ : p.al 3 = p.it p.j) (hk : ivP p 6 = (.i64, (p.j : Int))) (ht : lessI p.G (p.it p.j) (p.it p.i) = true) : runTo (RD2 true true 3 6 h h0 h1 hs hj hJ hk ht).T Try.prog (K31.or K32) 3000 ntD dL (frOf fsD) (hOf 20010 (bsD 10)) .normal (CD 6) (vpD 14) fsD (bsD 10) = true := by as_aux_lemma => kernel_rfl
theorem gD2tf {p : Pm} (h : Dok p) (h0 : 2 * p.i + 1 < p.n) (h1 : 2 * p.i + 2 < p.n) (hs : lessI p.G (p.it (2 * p.i + 2)) (p.it (2 * p.i + 1)) = true) (hj : p.j < p.n) (hJ : p.al 3 = p.it p.j) (hk : ivP p 6 = (.i64, (p.j : Int))) (ht : lessI p.G (p.it p.j) (p.it p.i) = false) : runTo (RD2 true false 3 6 h h0 h1 hs hj hJ hk ht).T Try.prog (K31.or K32) 3000 ntD dL (frOf fsD) (hOf 20010 (bsD 10)) (.exit 0) (CD 3) (vpD 10) fsD (bsD 10) = true := by as_aux_lemma => kernel_rfl
theorem gD2ft {p : Pm} (h : Dok p) (h0 : 2 * p.i + 1 < p.n) (h1 : 2 * p.i + 2 < p.n) (hs : lessI p.G (p.it (2 * p.i + 2)) (p.it (2 * p.i + 1)) = false) (hj : p.j < p.n) (hJ : p.al 2 = p.it p.j) (hk : ivP p 5 = (.i64, (p.j : Int))) (ht : lessI p.G (p.it p.j) (p.it p.i) = true) : runTo (RD2 false true 2 5 h h0 h1 hs hj hJ hk ht).T Try.prog (K21.or K32) 3000 ntD dL (frOf fsD) (hOf 20010 (bsD 10)) .normal (CD 5) (vpD 14) fsD (bsD 10) = true := by as_aux_lemma => kernel_rfl
theorem gD2ff {p : Pm} (h : Dok p) (h0 : 2 * p.i + 1 < p.n) (h1 : 2 * p.i + 2 < p.n) (hs : lessI p.G (p.it (2 * p.i + 2)) (p.it (2 * p.i + 1)) = false) (hj : p.j < p.n) (hJ : p.al 2 = p.it p.j) (hk : ivP p 5 = (.i64, (p.j : Int))) (ht : lessI p.G (p.it p.j) (p.it p.i) = false) : runTo (RD2 false false 2 5 h h0 h1 hs hj hJ hk ht).T Try.prog (K21.or K32) 3000 ntD dL (frOf fsD) (hOf 20010 (bsD 10)) (.exit 0) (CD 3) (vpD 10) fsD (bsD 10) = true := by as_aux_lemma => kernel_rfl
end Go.Proofs.Ytnenjcehicaobaa.pf
