/-
  The laws of profile: container/heap's down: its loop, its contract.
-/
import Derived.Test.YtnenjcehicaobaaPFE
set_option linter.unusedVariables false
set_option linter.unusedSimpArgs false
set_option linter.unusedSectionVars false
set_option maxRecDepth 1000000
set_option maxHeartbeats 0
namespace Go.Proofs.Ytnenjcehicaobaa.pf
open Go.X Go.RowKit Go.Proofs
theorem hIn_next {N : Nat} {bs : BL} : (hIn N bs).next = N := by unfold hIn; rw [fT_eq]
theorem baseUp {B : Kp} {μ : M} {n m : Nat} (h : Base B μ n) (hn : n ≤ m) : Base B μ m := ⟨fun x l e => Nat.lt_of_lt_of_le (h.names x l e) hn, fun x e => Nat.lt_of_lt_of_le (h.res x e) hn⟩
theorem hOf_next' {N : Nat} {bs : BS} : (hOf N bs).next = N := by unfold hOf; rw [fT_eq]
theorem vpVec {T T' : Tab} {C : Cv} {x i i' n n' : Nat} {e e' : Nat → AV} {l : VP} (k : VpOk T T' C l) (hv : T.vv i = celV n e) (hv' : T'.vv i' = celV n' e') (hn : n' ≤ n) (hk : T'.vk i' ≤ T.vk i) (he : ∀ m, m < n' → ∀ μ μ' v, @vrel T μ (e m) v → @vrel T' μ' (e' m) v) : VpOk T T' C ((x, .vec i, i') :: l) := by
  refine vpCons ⟨rfl, fun μ l w h => ?_⟩ k
  obtain ⟨arr, el, fz, h1, h2, h3, h4, h5⟩ := h
  refine ⟨arr, el, fz, h1, h2, h3, Nat.le_trans (Nat.add_le_add_left hk _) h4, fun m a ha => ?_⟩
  have ha : T'.vv i' m = some a := ha
  rw [hv'] at ha
  obtain ⟨hm, rfl⟩ := celV_some ha
  obtain ⟨v, v1, v2⟩ := h5 m (e m) (by rw [hv]; exact celV_lt (by omega))
  exact ⟨v, v1, he m hm _ _ v v2⟩
theorem rwRel {T T' : Tab} {μ μ' : M} {a b : Nat} {v : Value} (h : T.rv a = T'.rv b) (k : @vrel T μ (.rw a) v) : @vrel T' μ' (.rw b) v := by
  simp only [vrel] at k ⊢
  rw [← h]; exact k
section
variable {p : Pm} {B : Kp} {w0 : World} {μ : M} {a : Act} {w : World}
def SD (p : Pm) (B : Kp) (w0 : World) (μ : M) (a : Act) (w : World) : Prop := St (T0 p) B w0 μ ntD (frOf fsD) (hOf 20010 (bsD 10)) a w
def nxD (p : Pm) : Pm := { p with it := swF p.it p.i p.j, i := p.j, j := dnJ p.G p.n (swF p.it p.i p.j) p.j }
theorem vpQ {T T' : Tab} {C : Cv} {x i i' n : Nat} {f f' : Nat → Nat} (hv : T.vv i = celV n (cq f) := by exact rfl) (hv' : T'.vv i' = celV n (cq f') := by exact rfl) (hk : T'.vk i' ≤ T.vk i := by exact Nat.le_refl _) (he : ∀ m, m < n → T.rv (f m + 10) = T'.rv (f' m + 10) := by exact fun _ _ => rfl) {l : VP} (k : VpOk T T' C l) : VpOk T T' C ((x, .vec i, i') :: l) :=
  vpVec k hv hv' (Nat.le_refl _) hk (fun m hm μ μ' v h => rwRel (he m hm) h)
theorem rkD : ∀ i, okRn (CD i) [] = true := fun i => by kernel_rfl
theorem hKor {K L : Hand} {T : Tab} (hK : @HandOk T Try.prog K) (hL : @HandOk T Try.prog L) : @HandOk T Try.prog (K.or L) := HandOk.or hK hL
theorem k21 {T : Tab} (e : SameTab (T0 p) T) (hj : p.j = 2 * p.i + 1) : @HandOk T Try.prog K21 :=
  cmpH_ok (a := p.G.row (p.al 2)) (b := p.G.row (p.al 1)) (by rw [← e.str]; exact str_txt p 2) (by rw [← e.iv]; exact iv_cnt p 2) (by rw [← e.str]; exact str_txt p 1) (by rw [← e.iv]; exact iv_cnt p 1) (by rw [← e.iv]; show ((IntKind.i64, cmpR (p.G.row (p.it p.j)) (p.G.row (p.it p.i))) : IntKind × Int) = _; rw [hj])
theorem k31 {T : Tab} (e : SameTab (T0 p) T) (hj : p.j = 2 * p.i + 2) : @HandOk T Try.prog K31 :=
  cmpH_ok (a := p.G.row (p.al 3)) (b := p.G.row (p.al 1)) (by rw [← e.str]; exact str_txt p 3) (by rw [← e.iv]; exact iv_cnt p 3) (by rw [← e.str]; exact str_txt p 1) (by rw [← e.iv]; exact iv_cnt p 1) (by rw [← e.iv]; show ((IntKind.i64, cmpR (p.G.row (p.it p.j)) (p.G.row (p.it p.i))) : IntKind × Int) = _; rw [hj])
theorem k32 {T : Tab} (e : SameTab (T0 p) T) : @HandOk T Try.prog K32 :=
  cmpH_ok (a := p.G.row (p.al 3)) (b := p.G.row (p.al 2)) (by rw [← e.str]; exact str_txt p 3) (by rw [← e.iv]; exact iv_cnt p 3) (by rw [← e.str]; exact str_txt p 2) (by rw [← e.iv]; exact iv_cnt p 2) (by rw [← e.iv]; rfl)
theorem ipD_ok {T T' : Tab} {i : Nat} {x y z u : Int} (h0 : T.iv 0 = (.i64, x)) (h0' : T'.iv 0 = (.i64, x)) (h1 : T.iv 1 = (.i64, y)) (h1' : T'.iv 1 = (.i64, y)) (h7 : T.iv 7 = (.i64, z)) (h7' : T'.iv 7 = (.i64, z)) (h3 : T.iv i = (.i64, u)) (h3' : T'.iv 3 = (.i64, u)) : IpOk T T' ((.oi i, 3) :: ipD) :=
  ipE (ipE (ipE (ipE ipNil h7 h7') h1 h1') h0 h0') h3 h3'
/-- it goes on -/
def goesD (p : Pm) : Prop := 2 * p.i + 1 < p.n ∧ lessI p.G (p.it p.j) (p.it p.i) = true
theorem toEnd (h : Dok p) (hb : Base B μ 20010) {R : Rz p} {K : Hand} (hK : @HandOk R.T Try.prog K) (e : runTo R.T Try.prog K 3000 ntD dL (frOf fsD) (hOf 20010 (bsD 10)) (.exit 0) (CD 3) (vpD 10) fsD (bsD 10) = true) (s : SD p B w0 μ a w) :
    dL.wp Try.prog (fun e a' w' => e = .exit 0 ∧ SD p B w0 μ a' w') a w :=
  runTo_sound (T := R.T) (T' := T0 p) mixed hK (C := CD 3) (ex := .exit 0) hb (Nat.le_refl _) (rl := []) rfl (rkD _) (ipD_ok rfl rfl rfl rfl rfl rfl rfl rfl) (vpQ (n := p.N) (f := p.it) (f' := p.it) (k := vpNil)) (fun g => Gl.tab (Rz.same R).symm.toSameV g) e (St.same R.same s)
theorem toNext (h : Dok p) (hb : Base B μ 20010) {i : Nat} {R : Rz p} {K : Hand} (hi : ivP p i = (.i64, (p.j : Int))) (hK : @HandOk R.T Try.prog K) (e : runTo R.T Try.prog K 3000 ntD dL (frOf fsD) (hOf 20010 (bsD 10)) .normal (CD i) (vpD 14) fsD (bsD 10) = true) (s : SD p B w0 μ a w) :
    dL.wp Try.prog (fun e a' w' => e = .normal ∧ SD (nxD p) B w0 μ a' w') a w :=
  runTo_sound (T := R.T) (T' := T0 (nxD p)) mixed hK (C := CD i) (ex := .normal) hb (Nat.le_refl _) (rl := []) rfl (rkD _) (ipD_ok rfl rfl rfl rfl rfl rfl hi rfl) (vpQ (n := p.N) (f := swF p.it p.i p.j) (f' := swF p.it p.i p.j) (k := vpNil)) (fun g => gw_gl (p := nxD p) (gl_gw (p := p) (Gl.tab (Rz.same R).symm.toSameV g))) e (St.same R.same s)
theorem dRound (h : Dok p) (hj : p.j = dnJ p.G p.n p.it p.i) (hb : Base B μ 20010) (s : SD p B w0 μ a w) : dL.wp Try.prog (fun e a' w' => (e = .normal ∧ goesD p ∧ SD (nxD p) B w0 μ a' w') ∨ (e = .exit 0 ∧ ¬ goesD p ∧ SD p B w0 μ a' w')) a w := by
  by_cases h0 : 2 * p.i + 1 < p.n
  case neg =>
    refine wp_mono (toEnd h hb hNo (gDe h h0) s) ?_
    rintro e a' w' ⟨rfl, s'⟩
    exact .inr ⟨rfl, fun g => h0 g.1, s'⟩
  cases ht : lessI p.G (p.it p.j) (p.it p.i) with
  | false =>
    refine wp_mono (Q := fun e a' w' => e = .exit 0 ∧ SD p B w0 μ a' w') ?_ (by
      rintro e a' w' ⟨rfl, s'⟩
      exact .inr ⟨rfl, fun g => (by have := g.2; rw [ht] at this; cases this), s'⟩)
    by_cases h1 : 2 * p.i + 2 < p.n
    · cases hs : lessI p.G (p.it (2 * p.i + 2)) (p.it (2 * p.i + 1)) with
      | true =>
        have hj : p.j = 2 * p.i + 2 := by rw [hj]; unfold dnJ; rw [hs, decide_eq_true h1]; rfl
        exact toEnd h hb (hKor (k31 (Rz.same _) hj) (k32 (Rz.same _))) (gD2tf h h0 h1 hs (by omega) (by show p.it (2 * p.i + 2) = _; rw [hj]) (by show ((IntKind.i64, ((2 * p.i + 2 : Nat) : Int)) : IntKind × Int) = _; rw [hj]) ht) s
      | false =>
        have hj : p.j = 2 * p.i + 1 := by rw [hj]; unfold dnJ; rw [hs, Bool.and_false]; rfl
        exact toEnd h hb (hKor (k21 (Rz.same _) hj) (k32 (Rz.same _))) (gD2ff h h0 h1 hs (by omega) (by show p.it (2 * p.i + 1) = _; rw [hj]) (by show ((IntKind.i64, ((2 * p.i + 1 : Nat) : Int)) : IntKind × Int) = _; rw [hj]) ht) s
    · have hj : p.j = 2 * p.i + 1 := by rw [hj]; unfold dnJ; rw [decide_eq_false h1, Bool.false_and]; rfl
      exact toEnd h hb (k21 (Rz.same _) hj) (gD1f h h0 h1 hj ht) s
  | true =>
    refine wp_mono (Q := fun e a' w' => e = .normal ∧ SD (nxD p) B w0 μ a' w') ?_ (by
      rintro e a' w' ⟨rfl, s'⟩
      exact .inl ⟨rfl, ⟨h0, ht⟩, s'⟩)
    by_cases h1 : 2 * p.i + 2 < p.n
    · cases hs : lessI p.G (p.it (2 * p.i + 2)) (p.it (2 * p.i + 1)) with
      | true =>
        have hj : p.j = 2 * p.i + 2 := by rw [hj]; unfold dnJ; rw [hs, decide_eq_true h1]; rfl
        exact toNext h hb (i := 6) (by show ((IntKind.i64, ((2 * p.i + 2 : Nat) : Int)) : IntKind × Int) = _; rw [hj]) (hKor (k31 (Rz.same _) hj) (k32 (Rz.same _))) (gD2tt h h0 h1 hs (by omega) (by show p.it (2 * p.i + 2) = _; rw [hj]) (by show ((IntKind.i64, ((2 * p.i + 2 : Nat) : Int)) : IntKind × Int) = _; rw [hj]) ht) s
      | false =>
        have hj : p.j = 2 * p.i + 1 := by rw [hj]; unfold dnJ; rw [hs, Bool.and_false]; rfl
        exact toNext h hb (i := 5) (by show ((IntKind.i64, ((2 * p.i + 1 : Nat) : Int)) : IntKind × Int) = _; rw [hj]) (hKor (k21 (Rz.same _) hj) (k32 (Rz.same _))) (gD2ft h h0 h1 hs (by omega) (by show p.it (2 * p.i + 1) = _; rw [hj]) (by show ((IntKind.i64, ((2 * p.i + 1 : Nat) : Int)) : IntKind × Int) = _; rw [hj]) ht) s
    · have hj : p.j = 2 * p.i + 1 := by rw [hj]; unfold dnJ; rw [decide_eq_false h1, Bool.false_and]; rfl
      exact toNext h hb (i := 5) (by show ((IntKind.i64, ((2 * p.i + 1 : Nat) : Int)) : IntKind × Int) = _; rw [hj]) (k21 (Rz.same _) hj) (gD1t h h0 h1 hj ht) s
end
end Go.Proofs.Ytnenjcehicaobaa.pf
