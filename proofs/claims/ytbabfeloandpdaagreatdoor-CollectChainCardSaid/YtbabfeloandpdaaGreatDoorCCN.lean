/-
  The law CollectChain: the law.
-/
import Derived.Test.YtbabfeloandpdaaGreatDoorCCM
set_option linter.unusedVariables false
set_option linter.unusedSimpArgs false
set_option linter.unusedSectionVars false
set_option maxRecDepth 1000000
set_option maxHeartbeats 0
namespace Go.Proofs.YtbabfeloandpdaaGreatDoor.cc
open Go.X Go.RowKit Go.Proofs
def WZ : Nat → BitVec 64 := fun _ => 0#64
/-- all that is there by name -/
def pL (n f g : Nat) (W : Nat → BitVec 64) : Pc := ⟨n, f, g, W, f, 0, ([], 0), ([], 0), (n - g, [], n - g), (0, [], 0)⟩
noncomputable abbrev iL : IP := [(.oi 0, 0), (.oi 1, 1)]
noncomputable abbrev iL2 : IP := (.oi 2, 2) :: iL
noncomputable abbrev CL0 (ip : IP) : Cv := ⟨20000, 20010, ofPairs [], ip⟩
noncomputable abbrev CLa (a b c d e : Nat) (ip : IP) : Cv := ⟨20000, 20010, ofPairs (rlL a b c d e), ip⟩
noncomputable abbrev vL (a b c i j k i' j' k' : Nat) : VP := [(a, .vec i, i'), (b, .vec j, j'), (c, .vec k, k')]
noncomputable abbrev CLi (ip : IP) : Cv := CLa 20001 20002 20003 20004 20005 ip
noncomputable abbrev bI (v s l jw jc : Nat) : BS := bsL 20001 20002 20003 20004 20005 v s l jw jc
noncomputable abbrev bJ : BS := bI 10 11 12 2 0
theorem gl0 (p : Pc) (r : Bool) (h : Ok p) : firstTo (Tb (RS p h) (M0 p 0)) Tryz.prog K0 3000 nt 6 lC (T.ofList 0 .leaf [.oi 0, .oi 1, .bool r]) H.empty (CL0 iL) [] (fsA r) bsA = true := by cases r <;> (as_aux_lemma => kernel_rfl)
theorem gl1 (p : Pc) (r : Bool) : runTo (T0 p 0) Tryz.prog Hand.none 3000 nt (hd l6) (frOf (fsA r)) (hOf 20010 bsA) .normal (CL0 ((.int .i64 0, 10) :: iL)) [] (fsB r .nils) bsA = true := by cases r <;> (as_aux_lemma => kernel_rfl)
noncomputable abbrev z3 : Blk := rowOf [.int .u64 0, .int .u64 0, .int .u64 0] true
noncomputable abbrev zS : Blk := rowOf [.int .i64 0] true
noncomputable abbrev zL : Blk := rowOf [.int .i64 1] true
noncomputable abbrev iF : IP := (.int .i64 3, 12) :: (.int .i64 1, 10) :: (.oi 11, 10) :: iL
theorem glF (p : Pc) (r : Bool) (h : Ok p) : runTo (Tb (RF p h) (M0 p 0)) Tryz.prog Hand.none 3000 nt lL (frOf (fsB r .nils)) (hOf 20010 bsA) .normal (CLa 20096 20098 20100 20095 20093 iF) [(20096, z3, 0), (20098, zS, 1), (20100, zL, 2)] (fsB r (.ov 20003 10 1)) (bsL 20096 20098 20100 20095 20093 0 1 2 12 10) = true := by cases r <;> (as_aux_lemma => kernel_rfl)
noncomputable abbrev iM' : IP := (.oi 15, 12) :: (.oi 11, 10) :: iL
theorem glM (p : Pc) (k : Nat) (r : Bool) (h : Ok p) (hk : k < p.n) : runTo (Tb (RM p k h hk) (M0 p k)) Tryz.prog Hand.none 3000 nt lL (frOf (fsB r (.ov 20003 10 1))) (hOf 20010 (bI 0 1 2 12 10)) .normal (CLa 20021 20023 20025 20004 20005 iM') (vL 20021 20023 20025 3 4 5 0 1 2) (fsB r (.ov 20003 10 1)) (bsL 20021 20023 20025 20004 20005 0 1 2 12 10) = true := by cases r <;> (as_aux_lemma => kernel_rfl)
noncomputable abbrev iX : IP := (.oi 12, 2) :: (.oi 10, 0) :: iL
theorem glX (p : Pc) (k : Nat) (r : Bool) (hk : ¬ k < p.n) : runTo (Tb (RE p k hk) (M0 p k)) Tryz.prog Hand.none 3000 nt lL (frOf (fsB r (.ov 20003 10 1))) (hOf 20010 (bI 0 1 2 12 10)) (.exit 0) (CLi iX) (vL 20001 20002 20003 0 1 2 10 11 12) (fsX r) bJ = true := by cases r <;> (as_aux_lemma => kernel_rfl)
noncomputable abbrev vJ (i : Nat) : VP := vL 20001 20002 20003 i 11 12 10 11 12
theorem gc0 (p : Pc) (r : Bool) : runTo (T0 p 0) Tryz.prog Hand.none 3000 nt (hd l7) (frOf (fsX r)) (hOf 20010 bJ) .normal (CLi ((.int .i64 0, 10) :: iL2)) (vJ 10) (fsC r) bJ = true := by cases r <;> (as_aux_lemma => kernel_rfl)
theorem gcP (p : Pc) (k : Nat) (r : Bool) (h : Ok p) (hk : k + 1 < p.n) (hw : Wok p) : runTo (Tb (RP p k h hk hw) (M0 p k)) Tryz.prog hK 3000 nt lM (frOf (fsC r)) (hOf 20010 bJ) .normal (CLi ((.oi 11, 10) :: iL2)) (vJ 13) (fsC r) bJ = true := by cases r <;> (as_aux_lemma => kernel_rfl)
theorem gcX (p : Pc) (k : Nat) (r : Bool) (h : Ok p) (hk : k + 1 = p.n) : runTo (Tb (RPx p k h hk) (M0 p k)) Tryz.prog Hand.none 3000 nt lM (frOf (fsC r)) (hOf 20010 bJ) (.exit 2) (CLi ((.oi 10, 10) :: iL2)) (vJ 10) (fsC r) bJ = true := by cases r <;> (as_aux_lemma => kernel_rfl)
section
variable {p : Pc} {k : Nat}
/-- the end is tied to the beginning -/
noncomputable abbrev RQ (p : Pc) (k : Nat) (h : Ok p) (hk : k + 1 = p.n) (hw : Wok p) : RwP p k where
  vvp := vvPp p k
  ib := rowsO ++ [(1, .oi 0, .int .i64 1, .oi 10), (11, .oi 10, .oi 0, .bool true), (14, .oi 10, .int .i64 0, .bool true), (11, .oi 47, .oi 0, .bool true), (14, .oi 47, .int .i64 0, .bool true)]
  ibok := by
    have h2 := h.n6
    as_aux_lemma => exact rowsO_ok h (by omega) (rSub (rLt (rGe (rLt (rGe ibNil)))))
  vc := [(0, 47)]
  vcok := cN allNil
  vl := [⟨12, 10, 1, 0, [.oi 13]⟩, ⟨12, 47, 1, 0, [.int .i64 1]⟩, ⟨10, 12, 1, 0, [.int .u64 0]⟩]
  vlok := by
    have h1 := h.n1
    have h3 : wI (p.W (3 * k)) = 0 := by rw [hw.z k (by omega)]; rfl
    as_aux_lemma => exact lN (i := 12) (j := 10) (y := 13) (q := k) (n := p.n) (K := .i64) (e := fun m => ((3 * m + 1 : Nat) : Int)) (Go.X.lC (i := 12) (j := 47) (q := 0) (n := p.n) (K := .i64) (c := 1) (e := fun m => ((3 * m + 1 : Nat) : Int)) (Go.X.lC (i := 10) (j := 12) (q := 3 * k) (n := 3 * p.n) (K := .u64) (c := 0) (e := fun m => wI (p.W m)) allNil (hk := rfl) (hv := rfl) (hy := h3)) (hk := rfl) (hv := rfl) (hy := rfl)) (hk := rfl) (hv := rfl) (hy := rfl)
  vs := [⟨10, 14, 1, 0, [.int .u64 1], 14⟩]
  vsok := by
    have h2 := h.n6
    as_aux_lemma => exact sN (K := .u64) (i := 10) (j := 14) (i' := 14) (x := .int .u64 1) (n := 3 * p.n) (q := 3 * k + 2) (e := fun m => wI (p.W m)) (e' := fun m => wI (put p.W (3 * k + 2) 1 m)) allNil (hk := rfl) (hv := rfl) (hv' := rfl) (h1 := rfl) (h2 := rfl) (hy := by
      show some ((IntKind.u64, (1 : Int)) : IntKind × Int) = some (.u64, wI (put p.W (3 * k + 2) 1 (3 * k + 2)))
      rw [put_x (by decide) (by decide)]) (hw := fun m _ hm => congrArg wI (put_ne hm))
end
noncomputable def l8 : Code := hd (restn 8 lC)
theorem l8_eq : restn 8 lC = .seq l8 (restn 9 lC) := by kernel_rfl
theorem gq1 (p : Pc) (k : Nat) (h : Ok p) (hk : k + 1 = p.n) (hw : Wok p) : runTo (Tb (RQ p k h hk hw) (M0 p k)) Tryz.prog hK 3000 nt l8 (frOf (fsC true)) (hOf 20010 bJ) .normal (CLi iL2) (vJ 14) (fsX true) bJ = true := by as_aux_lemma => kernel_rfl
theorem gq0 (p : Pc) (k : Nat) : runTo (T0 p k) Tryz.prog Hand.none 3000 nt l8 (frOf (fsC false)) (hOf 20010 bJ) .normal (CLi iL2) (vJ 10) (fsX false) bJ = true := by as_aux_lemma => kernel_rfl
/- the end -/
noncomputable def wR (r : Bool) : List BRow := Bool.rec [(1, .oi 0, .oi 1, .oi 3), (9, .oi 3, .oi 3, .bool true), (2, .int .i64 3, .oi 3, .oi 4), (9, .oi 4, .oi 4, .bool true)] [(1, .oi 0, .oi 1, .oi 49), (9, .oi 3, .oi 0, .bool true), (2, .int .i64 3, .oi 0, .oi 2), (9, .oi 4, .oi 2, .bool true)] r
theorem wR_ok {p : Pc} {r : Bool} (i : Chn p r) : ∀ q ∈ wR r ++ [(11, .oi 1, .oi 0, .bool true), (14, .oi 1, .int .i64 0, .bool true)], IbOk (ivP p 0) q := by
  have h2 := i.ok.n6; have h3 := i.ok.f1; have hg := i.g
  have hcc : p.cnt = p.n - p.g := rfl
  cases r with
  | false =>
    have hg : p.g = p.f := hg
    exact rSub (rEq (rMul (rEq (rLt (rGe ibNil)))))
  | true =>
    have hg : p.g = 0 := hg
    exact rSub (rEq (rMul (rEq (rLt (rGe ibNil)))))
noncomputable abbrev RH (p : Pc) (r : Bool) (i : Chn p r) (hc : p.c = p.f) : RwP p 0 where
  vvp := vvPp p 0
  ib := wR r ++ [(11, .oi 1, .oi 0, .bool true), (14, .oi 1, .int .i64 0, .bool true)]
  ibok := wR_ok i
  vl := [⟨12, 1, 1, 0, [.oi 32]⟩]
  vlok := by
    have h3 := i.ok.f1
    as_aux_lemma => exact lN (i := 12) (j := 1) (y := 32) (q := p.f) (n := p.n) (K := .i64) (e := fun m => ((3 * m + 1 : Nat) : Int)) allNil (hk := rfl) (hv := rfl) (hy := by show ((IntKind.i64, ((3 * p.c + 1 : Nat) : Int)) : IntKind × Int) = _; rw [hc])
noncomputable abbrev MH (p : Pc) : Mw p 0 where
  me := [(5, .oi 3)]
  meok := allCons (by show some ((IntKind.i64, (p.cnt : Int)) : IntKind × Int) = some (.i64, (((toM p.g p.cnt).1.length : Nat) : Int)); simp [toM]) (fun r h => nomatch h)
noncomputable abbrev KH : Hand := (inHand runI).or (inHand allI)
theorem gh1 (p : Pc) (i : Chn p true) (hc : p.c = p.f) : runTo (Tb (RH p true i hc) (MH p)) Tryz.prog KH 3000 nt (restn 9 lC) (frOf (fsX true)) (hOf 20010 bJ) .ret (CL0 []) [] [(6, .bool true)] [] = true := by as_aux_lemma => kernel_rfl
theorem gh0 (p : Pc) (i : Chn p false) (hc : p.c = p.f) : runTo (Tb (RH p false i hc) (MH p)) Tryz.prog KH 3000 nt (restn 9 lC) (frOf (fsX false)) (hOf 20010 bJ) .ret (CL0 []) [] [(6, .bool true)] [] = true := by as_aux_lemma => kernel_rfl
end Go.Proofs.YtbabfeloandpdaaGreatDoor.cc
