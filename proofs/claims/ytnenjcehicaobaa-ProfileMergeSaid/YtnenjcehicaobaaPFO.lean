/-
  The laws of profile: Merge: the queue is made.
-/
import Derived.Test.YtnenjcehicaobaaPFP
set_option linter.unusedVariables false
set_option linter.unusedSimpArgs false
set_option linter.unusedSectionVars false
set_option maxRecDepth 1000000
set_option maxHeartbeats 0
namespace Go.Proofs.Ytnenjcehicaobaa.pf
open Go.X Go.RowKit Go.Proofs
/-- cells that become a vector -/
theorem vpRowC {T T' : Tab} {C : Cv} {x i' n : Nat} {q : Bool} {L : List AV} {e' : Nat → AV} {l : VP} (k : VpOk T T' C l) (hn : n = L.length) (hlen : L.length < 16000000) (hv : T'.vv i' = celV n e') (hk : T'.vk i' ≤ n) (he : ∀ m a, L[m]? = some a → ∀ μ μ' v, @vrel T μ a v → @vrel T' μ' (e' m) v) : VpOk T T' C ((x, rowOf L q, i') :: l) := by
  refine vpCons ⟨rfl, fun μ l w hb => ?_⟩ k
  obtain ⟨arr, el, fz, g1, g2, g3, g4, _, g5⟩ := hb
  have g4 : l.base + L.length ≤ l.total := g4
  refine ⟨arr, el, fz, g1, g2, g3, Nat.le_trans (Nat.add_le_add_left (hn ▸ hk) _) g4, fun m a ha => ?_⟩
  have ha : T'.vv i' m = some a := ha
  rw [hv] at ha
  obtain ⟨hm, rfl⟩ := celV_some ha
  have hm' : m < L.length := by omega
  obtain ⟨v, k3, k4⟩ := g5 m L[m] (by show m < L.length; exact hm') (by
    unfold cellOf
    rw [X.T.get_ofList _ _ _ _ (by omega), if_pos ⟨Nat.zero_le _, by omega⟩, Nat.sub_zero, List.getElem?_eq_getElem hm'])
  exact ⟨v, k3, he m L[m] (List.getElem?_eq_getElem hm') _ _ v k4⟩
def atL (p : Pm) (r : Nat) : Pm := { p with N := (qs p.G p.ls r).length, it := qI p.G p.ls r, r := r }
section
variable {p : Pm} {B : Kp} {w0 : World} {μ : M} {a : Act} {w : World} {r : Nat}
def SL0 (p : Pm) (B : Kp) (w0 : World) (μ : M) (a : Act) (w : World) : Prop := St (T0 p) B w0 μ ntM (frOf fsL) (hOf 20010 (bsL0 20001)) a w
def SL1 (p : Pm) (B : Kp) (w0 : World) (μ : M) (a : Act) (w : World) : Prop := St (T0 p) B w0 μ ntM (frOf fsL) (hOf 20010 (bsL1 20001 20002 10)) a w
def SL (p : Pm) (r : Nat) (B : Kp) (w0 : World) (μ : M) (a : Act) (w : World) : Prop := ((qs p.G p.ls r).length = 0 ∧ SL0 (atL p r) B w0 μ a w) ∨ (0 < (qs p.G p.ls r).length ∧ SL1 (atL p r) B w0 μ a w)
theorem glM {p p' : Pm} {R : Rz p} {B : Kp} {w : World} (e : p'.G = p.G) (g : @Gl R.T B w) : @Gl (T0 p') B w := glP (p := p) e (Gl.tab (Rz.same R).symm.toSameV g)
theorem iM_ok {T T' : Tab} {x y : Int} (h1 : T.iv 40 = (.i64, x)) (h2 : T'.iv 40 = (.i64, x)) (h3 : T.iv 24 = (.i64, y)) (h4 : T'.iv 24 = (.i64, y)) : IpOk T T' iM := ipE (ipE ipNil h3 h4) h1 h2
theorem qs_len (ls : Nat → Nat) (G : Gi) (r : Nat) : (qs G ls r).length ≤ r := by
  unfold qs
  refine Nat.le_trans (List.length_filter_le _ _) ?_
  simp [qL]
theorem qI_old {G : Gi} {ls : Nat → Nat} {r m : Nat} (h : 0 < G.len (ls r)) (hm : m < (qs G ls r).length) : qI G ls (r + 1) m = qI G ls r m := by
  unfold qI
  rw [qs_succ, if_pos h, List.getD_eq_getElem?_getD, List.getD_eq_getElem?_getD, List.getElem?_append_left hm]
theorem qI_new {G : Gi} {ls : Nat → Nat} {r : Nat} (h : 0 < G.len (ls r)) : qI G ls (r + 1) (qs G ls r).length = ls r := by
  unfold qI
  rw [qs_succ, if_pos h, List.getD_eq_getElem?_getD, List.getElem?_append_right (Nat.le_refl _), Nat.sub_self]
  rfl
theorem qs_len1 {G : Gi} {ls : Nat → Nat} {r : Nat} (h : 0 < G.len (ls r)) : (qs G ls (r + 1)).length = (qs G ls r).length + 1 := by rw [qs_succ, if_pos h, List.length_append]; rfl
theorem qs_len0 {G : Gi} {ls : Nat → Nat} {r : Nat} (h : ¬ 0 < G.len (ls r)) : qs G ls (r + 1) = qs G ls r := by rw [qs_succ, if_neg h]
theorem qI_len0 {G : Gi} {ls : Nat → Nat} {r : Nat} (h : ¬ 0 < G.len (ls r)) : qI G ls (r + 1) = qI G ls r := by unfold qI; rw [qs_len0 h]
theorem lRound (g : Gok p.G) (hM : p.M < 999999) (hb : Base B μ 20000) (hr : r < p.M) (s : SL p r B w0 μ a w) : m2L.wp Try.prog (fun e a' w' => e = .normal ∧ SL p (r + 1) B w0 μ a' w') a w := by
  have hql := qs_len p.ls p.G r
  have hN : (atL p r).N + 1 < 1000000 := by show (qs p.G p.ls r).length + 1 < 1000000; omega
  have hM' : (atL p r).M < 1000000 := by show p.M < 1000000; omega
  have ipr : IpOk (T0 (atL p r)) (T0 (atL p (r + 1))) iL := ipE (q := (.i64, ((r + 1 : Nat) : Int))) (iM_ok (by exact rfl) (by exact rfl) (by exact rfl) (by exact rfl)) (by exact rfl) (by exact rfl)
  have vL_ok : ∀ (R : Rz (atL p r)) (C : Cv), VpOk R.T (T0 (atL p (r + 1))) C vL := fun R C => vpQ (n := p.M) (f := p.ls) (f' := p.ls) (k := vpNil)
  by_cases ht : 0 < p.G.len (p.ls r)
  · have hl := qs_len1 ht
    have hc : ∀ m, m < (qs p.G p.ls r).length + 1 → upF (qI p.G p.ls r) (qs p.G p.ls r).length (p.ls r) m = qI p.G p.ls (r + 1) m := by
      intro m hm
      by_cases c : m = (qs p.G p.ls r).length
      · subst c; rw [up_eq, qI_new ht]
      · rw [up_ne c, qI_old ht (by omega)]
    rcases s with ⟨h0, s⟩ | ⟨h0, s⟩
    · refine wp_mono (runTo_sound (T := (RL (p := atL p r) true g hr hM' hN (decide_eq_true ht)).T) (T' := T0 (atL p (r + 1))) mixed hNo (C := CM [(20001, 20001), (20002, 20011)] ((.int .i64 1, 22) :: iL)) (ex := .normal) hb (by decide) (rl := [(20001, 20001), (20002, 20011)]) rfl (by kernel_rfl)
        (ipK' (b := (((qs p.G p.ls (r + 1)).length : Nat) : Int)) ipr (by exact rfl) (by rw [hl, h0]; rfl))
        (vpRowC (n := 1) (L := [.rw 7]) (e' := cq (qI p.G p.ls (r + 1))) (vL_ok _ _) rfl (by decide) (by show celV (qs p.G p.ls (r + 1)).length _ = _; rw [hl, h0]; rfl) (by show (qs p.G p.ls (r + 1)).length ≤ 1; omega) (fun m a ha μ μ' v h => by
          match m, ha with
          | 0, ha =>
            cases ha
            refine rwRel ?_ h
            show p.G.rv (p.ls r) = p.G.rv (qI p.G p.ls (r + 1) 0)
            rw [← hc 0 (by omega), h0, up_eq]
          | (m + 1), ha => simp at ha)) (fun g => glM (p := atL p r) (by exact rfl) g) (gLB (p := atL p r) g hr hM' hN (decide_eq_true ht)) (St.same (Rz.same _) s)) ?_
      rintro e a' w' ⟨rfl, s'⟩
      exact ⟨rfl, .inr ⟨by omega, s'⟩⟩
    · refine wp_mono (runTo_sound (T := (RL (p := atL p r) true g hr hM' hN (decide_eq_true ht)).T) (T' := T0 (atL p (r + 1))) mixed hNo (C := CM [(20001, 20001), (20002, 20011)] ((.oi 28, 22) :: iL)) (ex := .normal) hb (by decide) (rl := [(20001, 20001), (20002, 20011)]) rfl (by kernel_rfl)
        (ipZ (a := (((qs p.G p.ls r).length + 1 : Nat) : Int)) (b := (((qs p.G p.ls (r + 1)).length : Nat) : Int)) (q := .i64) ipr (by exact rfl) (by exact rfl) (by rw [hl]))
        (vpVec (n := (qs p.G p.ls r).length + 1) (n' := (qs p.G p.ls (r + 1)).length) (e := cq (upF (qI p.G p.ls r) (qs p.G p.ls r).length (p.ls r))) (e' := cq (qI p.G p.ls (r + 1))) (vL_ok _ _) (by exact rfl) (by exact rfl) (by omega) (by show (qs p.G p.ls (r + 1)).length ≤ (qs p.G p.ls r).length + 1; omega) (fun m hm μ μ' v h => rwRel (by show p.G.rv _ = p.G.rv _; rw [← hc m (by omega)]) h)) (fun g => glM (p := atL p r) (by exact rfl) g) (gLC (p := atL p r) g hr hM' hN (decide_eq_true ht)) (St.same (Rz.same _) s)) ?_
      rintro e a' w' ⟨rfl, s'⟩
      exact ⟨rfl, .inr ⟨by omega, s'⟩⟩
  · have e1 := qs_len0 ht
    have e2 := qI_len0 ht
    rcases s with ⟨h0, s⟩ | ⟨h0, s⟩
    · refine wp_mono (runTo_sound (T := (RL (p := atL p r) false g hr hM' hN (decide_eq_false ht)).T) (T' := T0 (atL p (r + 1))) mixed hNo (C := CM [(20001, 20001)] iL) (ex := .normal) hb (by decide) (rl := [(20001, 20001)]) rfl (by kernel_rfl)
        ipr (vL_ok _ _) (fun g => glM (p := atL p r) (by exact rfl) g) (gLA0 (p := atL p r) g hr hM' hN (decide_eq_false ht)) (St.same (Rz.same _) s)) ?_
      rintro e a' w' ⟨rfl, s'⟩
      exact ⟨rfl, .inl ⟨by rw [e1]; exact h0, s'⟩⟩
    · refine wp_mono (runTo_sound (T := (RL (p := atL p r) false g hr hM' hN (decide_eq_false ht)).T) (T' := T0 (atL p (r + 1))) mixed hNo (C := CM [(20001, 20001), (20002, 20002)] ((.oi 22, 22) :: iL)) (ex := .normal) hb (by decide) (rl := [(20001, 20001), (20002, 20002)]) rfl (by kernel_rfl)
        (ipE (q := (.i64, (((qs p.G p.ls r).length : Nat) : Int))) ipr (by exact rfl) (by show ((IntKind.i64, (((qs p.G p.ls (r + 1)).length : Nat) : Int)) : IntKind × Int) = _; rw [e1]))
        (vpVec (n := (qs p.G p.ls r).length) (n' := (qs p.G p.ls (r + 1)).length) (e := cq (qI p.G p.ls r)) (e' := cq (qI p.G p.ls (r + 1))) (vL_ok _ _) (by exact rfl) (by exact rfl) (by rw [e1]; exact Nat.le_refl _) (by show (qs p.G p.ls (r + 1)).length ≤ (qs p.G p.ls r).length; rw [e1]; exact Nat.le_refl _) (fun m hm μ μ' v h => rwRel (by show p.G.rv _ = p.G.rv _; rw [e2]) h)) (fun g => glM (p := atL p r) (by exact rfl) g) (gLA1 (p := atL p r) g hr hM' hN (decide_eq_false ht)) (St.same (Rz.same _) s)) ?_
      rintro e a' w' ⟨rfl, s'⟩
      exact ⟨rfl, .inr ⟨by rw [e1]; exact h0, s'⟩⟩
end
end Go.Proofs.Ytnenjcehicaobaa.pf
