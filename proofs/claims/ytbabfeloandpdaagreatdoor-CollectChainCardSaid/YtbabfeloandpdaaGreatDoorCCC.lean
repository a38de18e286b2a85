/-
  The law CollectChain: the chain is made: rows, runs.
-/
import Derived.Test.YtbabfeloandpdaaGreatDoorCCB
set_option linter.unusedVariables false
set_option linter.unusedSimpArgs false
set_option linter.unusedSectionVars false
set_option maxRecDepth 1000000
set_option maxHeartbeats 0
namespace Go.Proofs.YtbabfeloandpdaaGreatDoor.cc
open Go.X Go.RowKit Go.Proofs
noncomputable def l7 : Code := hd (restn 7 lC)
noncomputable def lM : Code := lpIn (tl l7)
theorem l7_eq : restn 7 lC = .seq (.seq (hd l7) (.block 2 (.loop lM))) (restn 8 lC) := by kernel_rfl
noncomputable abbrev fsC (r : Bool) : List (Nat × AV) := [(0, .oi 0), (1, .oi 1), (2, .bool r), (7, .bool true), (8, .ptr 3255 0), (9, .ov 20003 0 1), (12, .oi 10)]
noncomputable abbrev fsX (r : Bool) : List (Nat × AV) := [(0, .oi 0), (1, .oi 1), (2, .bool r), (7, .bool true), (8, .ptr 3255 0), (9, .ov 20003 0 1)]
noncomputable abbrev bsM (a b c d e : Nat) : BS := bsL a b c d e 10 11 12 2 0
/-- words of the shapes' numbers -/
structure Wok (p : Pc) : Prop where
  z : ∀ m, m < p.n → p.W (3 * m) = 0#64
section
variable {p : Pc} {k : Nat}
/-- the object k is there -/
noncomputable abbrev rowsO : List BRow := [(1, .oi 13, .int .i64 1, .oi 12), (11, .oi 12, .oi 2, .bool true), (14, .oi 12, .int .i64 0, .bool true), (0, .oi 12, .int .i64 2, .oi 14), (0, .oi 14, .int .i64 0, .oi 14), (11, .oi 14, .oi 2, .bool true), (14, .oi 14, .int .i64 0, .bool true)]
theorem rowsO_ok (h : Ok p) (hk : k < p.n) {l : List BRow} (t : ∀ r ∈ l, IbOk (ivP p k) r) : ∀ r ∈ rowsO ++ l, IbOk (ivP p k) r := by
  have h2 := h.n6
  exact rSub (rLt (rGe (rAdd (rAdd (rLt (rGe t))))))
noncomputable abbrev hK : Hand := bs.bsHand 11 0 12 10
theorem hs11 {T : Tab} {n : Nat} (hv : T.vv 11 = numV .i64 n (fun m => ((3 * m : Nat) : Int))) : ∀ m, m < n → ∃ a, T.vv 11 m = some a ∧ ∀ μ v, @vrel T μ a v → v = .int .i64 ((3 * m : Nat) : Int) := fun m hm => by
  refine ⟨.int .i64 ((3 * m : Nat) : Int), by rw [hv]; unfold numV; rw [if_pos hm], fun μ v h => ?_⟩
  simp only [vrel] at h; exact h
theorem hK_ok (h : Ok p) (hk : k < p.n) (R : RwP p k) (M : Mw p k) : @HandOk (Tb R M) Tryz.prog hK :=
  bs.bsHand_ok (T := Tb R M) (i := 11) (j := 0) (t := 12) (r := 10) (F := fun m => ((3 * m : Nat) : Int)) (n := p.n) (p := k) rfl rfl rfl (hs11 (T := Tb R M) (n := p.n) rfl) hk (by have := h.n6; omega) (fun m k h1 h2 => by omega)
theorem icP (h : Ok p) (hk : k + 1 < p.n) : ∀ r ∈ ([(.u64, .oi 16, .oi 18)] : List (IntKind × AV × AV)), IcOk' (ivP p k) r := by
  have h2 := h.n6
  exact rConv (K := .u64) (K' := .i64) (n := ((3 * k + 4 : Nat) : Int)) (c := ((3 * k + 4 : Nat) : Int)) icNil (hx := rfl) (hy := rfl) (h := by unfold IntKind.wrap IntKind.bits IntKind.signed; simp only [Bool.false_and]; exact Int.emod_eq_of_lt (by omega) (by omega))
theorem put_at {W : Nat → BitVec 64} {a : Nat} {v : Nat} (h : v < 4294967296) : wI (put W a (v : Int) a) = (v : Int) := by
  unfold put
  rw [if_pos rfl]
  show ((BitVec.ofInt 64 (v : Int)).toNat : Int) = _
  rw [BitVec.ofInt_natCast, BitVec.toNat_ofNat, Nat.mod_eq_of_lt (by omega)]
theorem put_ne {W : Nat → BitVec 64} {a m : Nat} {v : Int} (h : m ≠ a) : put W a v m = W m := if_neg h
theorem vlP_ (h : Ok p) (hk : k + 1 < p.n) (hw : Wok p) : ∀ r ∈ ([⟨12, 10, 1, 0, [.oi 13]⟩, ⟨12, 11, 1, 0, [.oi 16]⟩, ⟨10, 12, 1, 0, [.int .u64 0]⟩] : List VL), VlOk (ivP p k) (vvP p k) r := by
  have h3 : wI (p.W (3 * k)) = 0 := by rw [hw.z k (by omega)]; rfl
  exact lN (i := 12) (j := 10) (y := 13) (q := k) (n := p.n) (K := .i64) (e := fun m => ((3 * m + 1 : Nat) : Int)) (lN (i := 12) (j := 11) (y := 16) (q := k + 1) (n := p.n) (K := .i64) (e := fun m => ((3 * m + 1 : Nat) : Int)) (Go.X.lC (i := 10) (j := 12) (q := 3 * k) (n := 3 * p.n) (K := .u64) (c := 0) (e := fun m => wI (p.W m)) allNil (hk := rfl) (hv := rfl) (hy := h3)) (hk := rfl) (hv := rfl) (hy := rfl)) (hk := rfl) (hv := rfl) (hy := rfl)
theorem vsP_ (h : Ok p) (hk : k + 1 < p.n) : ∀ r ∈ ([⟨10, 14, 1, 0, [.oi 18], 13⟩] : List VS), VsOk (ivP p k) (vvP p k) (vkP p k) r := by
  have h2 := h.n6
  exact sN (K := .u64) (i := 10) (j := 14) (i' := 13) (x := .oi 18) (n := 3 * p.n) (q := 3 * k + 2) (e := fun m => wI (p.W m)) (e' := fun m => wI (put p.W (3 * k + 2) ((3 * k + 4 : Nat) : Int) m)) allNil (hk := rfl) (hv := rfl) (hv' := rfl) (h1 := rfl) (h2 := rfl) (hy := by
      show some ((IntKind.u64, ((3 * k + 4 : Nat) : Int)) : IntKind × Int) = some (.u64, wI (put p.W (3 * k + 2) ((3 * k + 4 : Nat) : Int) (3 * k + 2)))
      rw [put_at (by omega)]) (hw := fun m _ hm => congrArg wI (put_ne hm))
noncomputable abbrev RP (p : Pc) (k : Nat) (h : Ok p) (hk : k + 1 < p.n) (hw : Wok p) : RwP p k where
  vvp := vvPp p k
  ib := rowsO ++ [(0, .oi 10, .int .i64 1, .oi 11), (11, .oi 11, .oi 0, .bool true), (11, .oi 10, .oi 0, .bool true), (14, .oi 10, .int .i64 0, .bool true), (14, .oi 11, .int .i64 0, .bool true)]
  ibok := by
    have h2 := h.n6
    as_aux_lemma => exact rowsO_ok h (by omega) (rAdd (rLt (rLt (rGe (rGe ibNil)))))
  ic := [(.u64, .oi 16, .oi 18)]
  icok := icP h hk
  vl := [⟨12, 10, 1, 0, [.oi 13]⟩, ⟨12, 11, 1, 0, [.oi 16]⟩, ⟨10, 12, 1, 0, [.int .u64 0]⟩]
  vlok := vlP_ h hk hw
  vs := [⟨10, 14, 1, 0, [.oi 18], 13⟩]
  vsok := vsP_ h hk
noncomputable abbrev RPx (p : Pc) (k : Nat) (h : Ok p) (hk : k + 1 = p.n) : RwP p k where
  vvp := vvPp p k
  ib := [(0, .oi 10, .int .i64 1, .oi 11), (11, .oi 11, .oi 0, .bool false)]
  ibok := by
    have h2 := h.n6
    as_aux_lemma => exact rAdd (rLt ibNil)
end
end Go.Proofs.YtbabfeloandpdaaGreatDoor.cc
