/-
  The law StringsAll: behind the loop: tables, hands.
-/
import Derived.Test.YtifdjfcakkdgeaaGreatDoorSAM
set_option linter.unusedVariables false
set_option linter.unusedSimpArgs false
set_option linter.unusedSectionVars false
set_option maxRecDepth 1000000
set_option maxHeartbeats 0
namespace Go.Proofs.YtifdjfcakkdgeaaGreatDoor.sa
open Go.X Go.RowKit Go.Proofs
/- the loop ends -/
noncomputable abbrev ipX : IP := [(.fo 0 15 1, 0), (.oi 30, 30), (.oi 15, 15), (.oi 14, 14), (.oi 1, 1), (.oi 2, 2)]
noncomputable def rlX : List (Nat × Nat) := [(20001, 20001), (20002, 20002), (20003, 20003), (20004, 20004), (20005, 20005), (20006, 20006)]
noncomputable def cvX' (m : Nat) : Cv := ⟨20000, 20010, ofPairs rlX, ipX ++ ipM m⟩
noncomputable abbrev RXa (p : Pm) (h : ¬ p.i < p.lu) : Rw (ivP p 0) (vvP p 0) (vkP p 0) (fgP p) (txP p 0) where
  vvp := vvPp p 0
  ib := [(11, .oi 14, .oi 15, .bool false)]
  ibok := by as_aux_lemma => exact rLt ibNil
noncomputable abbrev RXb (p : Pm) (h : p.i < p.lu) (h2 : p.i = 15) : Rw (ivP p 0) (vvP p 0) (vkP p 0) (fgP p) (txP p 0) where
  vvp := vvPp p 0
  ib := [(11, .oi 14, .oi 15, .bool true), (11, .oi 14, .int .i64 15, .bool false)]
  ibok := by as_aux_lemma => exact rLt (rLt ibNil)
def GXa (m : Nat) : Prop := ∀ p h, runTo (Pt p (RXa p h)) Tryz.prog Hand.none 3000 Tryz.f3.ntmps lL (frOf (fsL' m)) (hL m) (.exit 0) (cvX' m) [(20001, .vec 0, 0), (20002, .vec 1, 1)] (fsL' m) (bsL m 20001 20002 20003 20004 20005 20006) = true
def GXb (m : Nat) : Prop := ∀ p h h2, runTo (Pt p (RXb p h h2)) Tryz.prog Hand.none 3000 Tryz.f3.ntmps lL (frOf (fsL' m)) (hL m) (.exit 0) (cvX' m) [(20001, .vec 0, 0), (20002, .vec 1, 1)] (fsL' m) (bsL m 20001 20002 20003 20004 20005 20006) = true
/- what comes behind it -/
structure Re (p : Pm) (m : Nat) (b : Bool) : Prop where
  ar : Ar p
  ad : ∀ j, j < m → 1 ≤ p.adr j
  inj : ∀ i j, i < m → j < m → p.adr i = p.adr j → i = j
  by_ : b = true ↔ 0 < p.lim
  t0 : 0 < p.tot
noncomputable def rowQ (i m : Nat) : List BRow := Nat.rec [] (fun j ih => (9, .oi (Nat.add 200 i), .oi (Nat.add 200 j), .bool (Nat.beq i j)) :: ih) m
noncomputable def rowsQ (n m : Nat) : List BRow := Nat.rec [] (fun i ih => rowQ i m ++ ih) n
noncomputable def rowsF (m : Nat) (b : Bool) : List BRow := [(1, .int .i64 2048, .oi 1, .oi 6), (13, .int .i64 2, .oi 6, .bool false), (11, .oi 1, .oi 12, .bool true), (14, .oi 1, .int .i64 0, .bool true), (0, .oi 1, .int .i64 1, .oi 4), (1, .oi 4, .int .i64 1, .oi 1), (13, .oi 30, .int .i64 0, .bool b)] ++ (rowsE m ++ rowsQ m m)
noncomputable abbrev KE : Hand := (bs.bsHand 4 7 1 2).or (bn.bnHand 4 7 (-4))
section
variable {p : Pm} {k0 : Nat}
theorem rowQ_ok {i m0 : Nat} (hi : i < m0) (inj : ∀ i j, i < m0 → j < m0 → p.adr i = p.adr j → i = j) : ∀ m, m ≤ m0 → ∀ r ∈ rowQ i m, IbOk (ivP p k0) r
  | 0, _ => ibNil
  | j + 1, hm => by
    have d : ∀ j, denI (ivP p k0) (.oi (Nat.add 200 j)) = some (.i64, ((p.adr j : Nat) : Int)) := fun j => by show some (ivP p k0 (Nat.add 200 j)) = _; rw [iv200]
    refine rEq (hx := d i) (hy := d j) (h := ?_) (rowQ_ok hi inj j (by omega))
    cases hb : Nat.beq i j with
    | true => rw [Nat.eq_of_beq_eq_true hb]; simp
    | false =>
      refine decide_eq_false fun h => ?_
      have := inj i j hi (by omega) (by omega)
      rw [this] at hb
      rw [Nat.beq_refl] at hb; cases hb
theorem rowsQ_ok {m : Nat} (inj : ∀ i j, i < m → j < m → p.adr i = p.adr j → i = j) : ∀ n, n ≤ m → ∀ r ∈ rowsQ n m, IbOk (ivP p k0) r
  | 0, _ => ibNil
  | i + 1, hn => catR (rowQ_ok (by omega) inj m (Nat.le_refl _)) (rowsQ_ok inj i (by omega))
theorem rowsF_ok {m : Nat} {b : Bool} (h : Re p m b) : ∀ r ∈ rowsF m b, IbOk (ivP p k0) r := by
  have h4 := h.ar.t2
  refine catR (rSub (rGt (rLt (rGe (rAdd (rSub (rGt (h := ?_) ibNil))))))) (catR (rowsE_ok m h.ad) (rowsQ_ok h.inj m (Nat.le_refl _)))
  have := h.by_
  cases b with
  | true => exact decide_eq_true (this.1 rfl)
  | false => exact decide_eq_false fun h => Bool.noConfusion (this.2 h)
theorem vaE_ok (h : Ar p) : ∀ r ∈ ([⟨0, 1, 1, [.int .u64 0, .int .u64 0], 80, 12⟩, ⟨1, 2, 1, [.oi 1], 4, 7⟩] : List VA), VaOk (ivP p k0) (vvP p k0) (vkP p k0) r := by
  have h2 := h.t2
  exact aK (n := p.tot) (c := 2) (K := .u64) (e := fun m => wI (p.W m)) (e' := fun m => wI (p.WZ m)) (vaS_ok h allNil) rfl rfl rfl rfl rfl (by omega) (fun m hm => congrArg wI (if_pos hm)) (fun m hm => congrArg wI (if_neg (by omega)))
theorem vsE_ok : ∀ r ∈ ([⟨80, 1, 1, 0, [.int .u64 1], 81⟩] : List VS), VsOk (ivP p k0) (vvP p k0) (vkP p k0) r :=
  sN (K := .u64) (n := p.tot + 2) (q := p.tot) (e := fun m => wI (p.WZ m)) (e' := fun m => wI (p.WO m)) allNil (hy := by show some ((IntKind.u64, (1 : Int)) : IntKind × Int) = some (.u64, wI (p.WO p.tot)); rw [show p.WO p.tot = 1#64 from if_pos rfl]; rfl) (hw := fun m _ hm => congrArg wI (if_neg hm))
end
noncomputable abbrev RE' (p : Pm) (m : Nat) (b : Bool) (h : Re p m b) : Rw (ivP p 0) (vvP p 0) (vkP p 0) (fgP p) (txP p 0) where
  vvp := vvPp p 0
  ib := rowsF m b
  ibok := rowsF_ok h
  va := [⟨0, 1, 1, [.int .u64 0, .int .u64 0], 80, 12⟩, ⟨1, 2, 1, [.oi 1], 4, 7⟩]
  vaok := vaE_ok h.ar
  vs := [⟨80, 1, 1, 0, [.int .u64 1], 81⟩]
  vsok := vsE_ok
  vl := [⟨81, 1, 1, 0, [.int .u64 1]⟩]
  vlok := Go.X.lC (n := p.tot + 2) (q := p.tot) (e := fun m => wI (p.WO m)) allNil (hy := by show wI (p.WO p.tot) = 1; rw [show p.WO p.tot = 1#64 from if_pos rfl]; rfl)
theorem KE_ok {p : Pm} {T : Tab} (h : Ar p) (e : SameTab (TP p) T) : @HandOk T Tryz.prog KE := by
  have hs : ∀ m, m < p.cnt + 1 → ∃ a, T.vv 4 m = some a ∧ ∀ μ v, @vrel T μ a v → v = .int .i64 (p.S1 m) := fun m hm => ⟨.int .i64 (p.S1 m), by rw [← e.vv]; show numV .i64 (p.cnt + 1) p.S1 m = _; unfold numV; rw [if_pos hm], fun μ v hv => by simpa only [vrel] using hv⟩
  have h2 := h.c2
  refine @HandOk.or T Tryz.prog _ _ (bs.bsHand_ok (n := p.cnt + 1) (p := p.cnt) (F := p.S1) (by rw [← e.iv]; rfl) (by rw [← e.iv]; show ((IntKind.i64, (p.tot : Int)) : IntKind × Int) = _; rw [S1_tot]) (by rw [← e.iv]; rfl) hs (by omega) (by omega) (S1_inc h))
    (bn.bnHand_ok (n := p.cnt + 1) (F := p.S1) (by rw [← e.iv]; rfl) hs (by omega) (by omega) (fun m hm => ?_))
  have h0 := S1_0 h
  by_cases c : m = 0
  · rw [c, h0]; decide
  · have := S1_inc h 0 m (by omega) hm
    omega
def GE' (m : Nat) (b : Bool) : Prop := ∀ p h, runTrue (Pt p (RE' p m b h)) Tryz.prog KE 5000 Tryz.f3 (restn 8 lC) (frOf (fsL' m)) (hL m) = true
end Go.Proofs.YtifdjfcakkdgeaaGreatDoor.sa
