/-
  The laws of profile: Merge: lists are put into the queue: rows, states.
-/
import Derived.Test.YtnenjcehicaobaaPFI
set_option linter.unusedVariables false
set_option linter.unusedSimpArgs false
set_option linter.unusedSectionVars false
set_option maxRecDepth 1000000
set_option maxHeartbeats 0
namespace Go.Proofs.Ytnenjcehicaobaa.pf
open Go.X Go.RowKit Go.Proofs
noncomputable def mC : Code := codeOf Try.f9
theorem mC_eq : Try.f9.body = some mC := by kernel_rfl
noncomputable abbrev ntM : Nat := Try.f9.ntmps
noncomputable def m2 : Code := hd (restn 2 mC)
theorem m2_eq : restn 2 mC = .seq m2 (restn 3 mC) := by kernel_rfl
noncomputable def m2a : Code := hd m2
noncomputable def m2L : Code := lpIn (tl m2)
theorem m2_in : m2 = .seq m2a (.block 0 (.loop m2L)) := by kernel_rfl
noncomputable def m3 : Code := hd (restn 3 mC)
theorem m3_eq : restn 3 mC = .seq m3 (restn 4 mC) := by kernel_rfl
noncomputable def m4 : Code := hd (restn 4 mC)
theorem m4_eq : restn 4 mC = .seq m4 (restn 5 mC) := by kernel_rfl
noncomputable def m5L : Code := lpIn (hd (restn 5 mC))
theorem m5_eq : restn 5 mC = .seq (.block 2 (.loop m5L)) (restn 6 mC) := by kernel_rfl
noncomputable def m5a : Code := hd m5L
noncomputable def blkIn : Code → Code
  | .block _ c => c
  | _ => .skip
noncomputable def m5b : Code := hd (blkIn (tl m5L))
noncomputable def m5c : Code := tl (blkIn (tl m5L))
theorem m5_in : m5L = .seq m5a (.block 3 (.seq m5b m5c)) := by kernel_rfl
section
variable {p : Pm}
noncomputable abbrev rwA0 (t : Bool) : List BRow := [(11, .oi 25, .oi 24, .bool true), (14, .oi 25, .int .i64 0, .bool true), (13, .oi 1022, .int .i64 0, .bool t), (0, .oi 25, .int .i64 1, .oi 26)]
theorem rwA0_ok {t : Bool} (hr : p.r < p.M) (hM : p.M < 1000000) (ht : decide (0 < p.G.len (p.ls p.r)) = t) : ∀ r ∈ rwA0 t, IbOk (ivP p) r := by
  refine rLt (a := (p.r : Int)) (b := (p.M : Int)) (rGe0 p.r (by exact rfl) (rGt (a := (p.G.len (p.ls p.r) : Int)) (b := 0) (rAdd (a := (p.r : Int)) (b := 1) (c := ((p.r + 1 : Nat) : Int)) ibNil) (by exact rfl) (by exact rfl) ?_))
  cases t
  · have := of_decide_eq_false ht
    exact decide_eq_false (by omega)
  · have := of_decide_eq_true ht
    exact decide_eq_true (by omega)
theorem hidLen (g : Gok p.G) {a k : Nat} (hk : k = 1001 + 3 * a) {l : List (Nat × AV)} (t : ∀ r ∈ l, ∃ b n c, rvP p r.1 = .slice b n c ∧ denI (ivP p) r.2 = some (.i64, ((n : Nat) : Int))) : ∀ r ∈ (a, .oi k) :: l, ∃ b n c, rvP p r.1 = .slice b n c ∧ denI (ivP p) r.2 = some (.i64, ((n : Nat) : Int)) := by
  refine allCons ?_ t
  subst hk
  by_cases h : 0 < p.G.len (p.al a)
  · exact ⟨_, _, _, g.v _ h, by show some (ivP p (1001 + 3 * a)) = _; rw [iv_len]⟩
  · obtain ⟨b, c, e⟩ := g.z (p.al a) (by omega)
    exact ⟨_, _, _, e, by show some (ivP p (1001 + 3 * a)) = _; rw [iv_len, show p.G.len (p.al a) = 0 by omega]⟩
theorem vlL (hr : p.r < p.M) : ∀ r ∈ ([⟨24, 25, 1, 0, [.rw 7]⟩] : List VL), VlT (NmP p) (vvP p) r :=
  gL (q := p.r) (n := p.M) (e := cq p.ls) (fun _ h => nomatch h) (by exact rfl) (by exact rfl) hr (sameH' (by exact rfl))
theorem vaL (hN : p.N + 1 < 1000000) : ∀ r ∈ ([⟨10, 22, 1, [.rw 7], 15, 28⟩] : List VA), VaT (NmP p) (vvP p) (vlP p) r := by
  refine gA (n := p.N) (e := cq p.it) (e' := cq (upF p.it p.N (p.ls p.r))) (fun _ h => nomatch h) (by exact rfl) (by exact rfl) (by exact rfl) (by exact rfl) (by exact rfl) hN (fun m hm => ?_) ?_
  · exact .inl (.inl (by unfold cq; rw [up_ne (by omega)]))
  · exact sameH' (by show p.G.rv (p.ls p.r) = p.G.rv (upF _ _ _ _); rw [up_eq])
noncomputable abbrev RL (t : Bool) (g : Gok p.G) (hr : p.r < p.M) (hM : p.M < 1000000) (hN : p.N + 1 < 1000000) (ht : decide (0 < p.G.len (p.ls p.r)) = t) : Rz p where
  ib := rwA0 t
  ibok := rwA0_ok hr hM ht
  vl := [⟨24, 25, 1, 0, [.rw 7]⟩]
  vlok := vlL hr
  va := [⟨10, 22, 1, [.rw 7], 15, 28⟩]
  vaok := vaL hN
  rl := [(7, .oi 1022)]
  rlok := hidLen g (by exact rfl) (fun _ h => nomatch h)
noncomputable abbrev RLe (hr : ¬ p.r < p.M) : Rz p where
  ib := [(11, .oi 25, .oi 24, .bool false)]
  ibok := rLt (a := (p.r : Int)) (b := (p.M : Int)) ibNil
end
noncomputable abbrev fsL : List (Nat × AV) := [(0, .oi 40), (5, .ptr 20001 0), (9, .ov 19004 24 1), (10, .oi 24), (11, .oi 25)]
noncomputable abbrev bsL0 (x : Nat) : BS := [(20001, x, cel .nils), (19004, 19004, .vec 24)]
noncomputable abbrev bsL1 (x y v : Nat) : BS := [(20001, x, cel (.ov 20002 22 1)), (20002, y, .vec v), (19004, 19004, .vec 24)]
end Go.Proofs.Ytnenjcehicaobaa.pf
