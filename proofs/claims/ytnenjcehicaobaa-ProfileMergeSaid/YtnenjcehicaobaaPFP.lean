/-
  The laws of profile: Merge: the first list goes on, or is taken out: runs.
-/
import Derived.Test.YtnenjcehicaobaaPFN
set_option linter.unusedVariables false
set_option linter.unusedSimpArgs false
set_option linter.unusedSectionVars false
set_option maxRecDepth 1000000
set_option maxHeartbeats 0
namespace Go.Proofs.Ytnenjcehicaobaa.pf
open Go.X Go.RowKit Go.Proofs
section
variable {p : Pm}
theorem rs4 (h : Hk p) : ∀ r ∈ ([(4, 1, 2, 5)] : List (Nat × Nat × Nat × Nat)), ∃ A n c, rvP p r.1 = .slice (some A) n c ∧ r.2.1 ≤ n ∧ n ≤ c ∧ rvP p r.2.2.2 = .slice (some (if c = r.2.1 then A else A.add (r.2.1 * r.2.2.1))) (n - r.2.1) (c - r.2.1) :=
  allCons ⟨_, _, _, h.g.v _ h.l, h.l, h.g.c _ h.l, h.g.n _ h.l⟩ (fun _ h => nomatch h)
noncomputable abbrev rwB (t : Bool) : List BRow := [(11, .oi 10, .oi 22, .bool true), (14, .oi 10, .int .i64 0, .bool true), (9, .oi 1016, .int .i64 0, .bool t)]
theorem rwB_ok {t : Bool} (h : Hk p) (ht : decide (p.G.len (p.G.nx (p.it 0)) = 0) = t) {l : List BRow} (k : ∀ r ∈ l, IbOk (ivP p) r) : ∀ r ∈ rwB t ++ l, IbOk (ivP p) r :=
  rLtN 0 p.N (by exact rfl) (by exact rfl) h.N0 (rGe0 0 (by exact rfl) (rEq (a := (p.G.len (p.G.nx (p.it 0)) : Int)) (b := 0) (K := .i64) k (by exact rfl) (by exact rfl) (by rw [← ht, decide_eq_decide]; omega)))
/-- it goes on -/
noncomputable abbrev RF (h : Hk p) (ht : decide (p.G.len (p.G.nx (p.it 0)) = 0) = false) (ha : ∀ m, m < p.N → p.ita m = p.it1 m) : Rz p where
  ib := rwB false ++ []
  ibok := rwB_ok h ht ibNil
  vl := [⟨10, 10, 1, 0, [.rw 4]⟩, ⟨20, 10, 1, 0, [.rw 5]⟩]
  vlok := vlH h (gL (q := 0) (n := p.N) (e := cq p.ita) (fun _ h => nomatch h) (by exact rfl) (by exact rfl) h.N0 (sameH' (by show p.G.rv (p.ita 0) = p.G.rv (p.G.nx (p.it 0)); rw [ha 0 h.N0]; rfl)))
  vs := [⟨10, 10, 1, 0, [.rw 5], 20⟩]
  vsok := gS (q := 0) (n := p.N) (e := cq p.it) (e' := cq p.ita) (fun _ h => nomatch h) (by exact rfl) (by exact rfl) (by exact rfl) (by exact rfl) (by exact rfl) h.N0 (sameH' (by show p.G.rv (p.G.nx (p.it 0)) = p.G.rv (p.ita 0); rw [ha 0 h.N0]; rfl)) (fun m hm hne => .inl (.inl (by unfold cq; rw [ha m hm]; unfold Pm.it1; rw [up_ne hne])))
  rl := [(5, .oi 1016)]
  rlok := hidLen h.g (by exact rfl) (fun _ h => nomatch h)
  rs := [(4, 1, 2, 5)]
  rsok := rs4 h
  vc := [(0, 10)]
  vcok := vc0
theorem gF (t : Bool) (h : Hk p) (ht : decide (p.G.len (p.G.nx (p.it 0)) = 0) = false) (ha : ∀ m, m < p.N → p.ita m = p.it1 m) : runTo (RF h ht ha).T Try.prog (inHand (dI (.int .i64 0) (.oi 22) t)) 3000 ntM m5c (frOf fsM5v) (hOf 20010 (bsO 20003 10 30)) .normal (C5v 20003 i5v) (v5v 21) fsM5v (bsO 20003 10 30) = true := by cases t <;> as_aux_lemma => kernel_rfl
/-- it is taken out -/
noncomputable abbrev rwP : List BRow := [(1, .oi 22, .int .i64 1, .oi 21), (11, .oi 21, .oi 22, .bool true), (14, .oi 21, .int .i64 0, .bool true), (12, .oi 21, .oi 22, .bool true)]
theorem rwP_ok (h : Hk p) {l : List BRow} (k : ∀ r ∈ l, IbOk (ivP p) r) : ∀ r ∈ rwP ++ l, IbOk (ivP p) r := by
  have h0 := h.N0; have h1 := h.N1
  exact rSub (a := (p.N : Int)) (b := 1) (c := ((p.N - 1 : Nat) : Int)) (rLtN (p.N - 1) p.N (by exact rfl) (by exact rfl) (by omega) (rGe0 (p.N - 1) (by exact rfl) (rLe (a := ((p.N - 1 : Nat) : Int)) (b := (p.N : Int)) k)))
noncomputable abbrev RP (h : Hk p) (ht : decide (p.G.len (p.G.nx (p.it 0)) = 0) = true) (ha : ∀ m, m < p.N → p.ita m = swF p.it1 0 (p.N - 1) m) (hb : p.itb (p.N - 1) = p.G.nx (p.it 0)) : Rz p where
  ib := rwB true ++ (rwP ++ [])
  ibok := rwB_ok h ht (rwP_ok h ibNil)
  vl := [⟨10, 10, 1, 0, [.rw 4]⟩, ⟨11, 10, 1, 0, [.rw 5]⟩, ⟨11, 21, 1, 0, [.rw 6]⟩, ⟨21, 21, 1, 0, [.rw 5]⟩]
  vlok := by
    have h0 := h.N0
    exact vlH h (gL (q := 0) (n := p.N) (e := cq p.it1) (gL (q := p.N - 1) (n := p.N) (e := cq p.it1) (gL (q := p.N - 1) (n := p.N) (e := cq p.itb) (fun _ h => nomatch h) (by exact rfl) (by exact rfl) (by omega) (sameH' (by show p.G.rv (p.itb (p.N - 1)) = p.G.rv (p.G.nx (p.it 0)); rw [hb]))) (by exact rfl) (by exact rfl) (by omega) (sameH' (by exact rfl))) (by exact rfl) (by exact rfl) h.N0 (sameH' (by exact rfl)))
  vs := [⟨10, 10, 1, 0, [.rw 5], 11⟩, ⟨11, 10, 1, 0, [.rw 6], 12⟩, ⟨12, 21, 1, 0, [.rw 5], 20⟩]
  vsok := by
    have h0 := h.N0
    refine gS (q := 0) (n := p.N) (e := cq p.it) (e' := cq p.it1) (gS (q := 0) (n := p.N) (e := cq p.it1) (e' := cq p.it2) (gS (q := p.N - 1) (n := p.N) (e := cq p.it2) (e' := cq p.ita) (fun _ h => nomatch h) (by exact rfl) (by exact rfl) (by exact rfl) (by exact rfl) (by exact rfl) (by omega) ?_ ?_) (by exact rfl) (by exact rfl) (by exact rfl) (by exact rfl) (by exact rfl) h0 ?_ ?_) (by exact rfl) (by exact rfl) (by exact rfl) (by exact rfl) (by exact rfl) h0 ?_ ?_
    · exact sameH' (by show p.G.rv (p.G.nx (p.it 0)) = p.G.rv (p.ita (p.N - 1)); rw [ha _ (by omega), sw_r]; rfl)
    · exact fun m hm hne => .inl (.inl (by unfold cq; rw [ha m hm]; unfold swF Pm.it2; rw [up_ne hne]))
    · exact sameH' (by exact rfl)
    · exact fun m hm hne => .inl (.inl (by unfold cq Pm.it2; rw [up_ne hne]))
    · exact sameH' (by exact rfl)
    · exact fun m hm hne => .inl (.inl (by unfold cq Pm.it1; rw [up_ne hne]))
  rl := [(5, .oi 1016)]
  rlok := hidLen h.g (by exact rfl) (fun _ h => nomatch h)
  rs := [(4, 1, 2, 5)]
  rsok := rs4 h
  vc := [(0, 10)]
  vcok := vc0
theorem gP (t : Bool) (h : Hk p) (ht : decide (p.G.len (p.G.nx (p.it 0)) = 0) = true) (ha : ∀ m, m < p.N → p.ita m = swF p.it1 0 (p.N - 1) m) (hb : p.itb (p.N - 1) = p.G.nx (p.it 0)) : runTo (RP h ht ha hb).T Try.prog (inHand (dI (.int .i64 0) (.oi 21) t)) 3000 ntM m5c (frOf fsM5v) (hOf 20010 (bsO 20003 10 30)) (.exit 3) (C5v 20003 ((.oi 30, 30) :: (.oi 21, 22) :: (.oi 40, 40) :: [])) (v5v 21) fsM5v (bsO 20003 10 30) = true := by cases t <;> as_aux_lemma => kernel_rfl
end
end Go.Proofs.Ytnenjcehicaobaa.pf
