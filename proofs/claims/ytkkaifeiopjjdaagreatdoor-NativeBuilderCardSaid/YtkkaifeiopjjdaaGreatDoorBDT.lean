/-
  The law NativeBuilder: a text is made from the foreign slice.
-/
import Derived.Test.YtkkaifeiopjjdaaGreatDoorBDF
set_option linter.unusedVariables false
set_option linter.unusedSimpArgs false
set_option linter.unusedSectionVars false
set_option maxRecDepth 1000000
set_option maxHeartbeats 0
namespace Go.Proofs.YtkkaifeiopjjdaaGreatDoor.bd
open Go.X Go.RowKit Go.Proofs

/- a text is made (F) -/
section
variable {p : P} {k : Nat}
noncomputable abbrev rowsTF : List BRow := [(11, .oi 0, .int .i64 0, .bool false), (13, .oi 0, .int .i64 2147483647, .bool false),
  (2, .oi 0, .int .i64 2, .oi 8), (0, .oi 8, .int .i64 8, .oi 9), (1, .oi 9, .int .i64 1, .oi 10), (3, .oi 10, .int .i64 8, .oi 11), (0, .int .i64 3, .oi 11, .oi 5),
  (1, .int .i64 2048, .oi 1, .oi 6), (13, .oi 5, .oi 6, .bool false)]
noncomputable abbrev rowsAF : List BRow := [(11, .oi 1, .oi 3, .bool true), (14, .oi 1, .int .i64 0, .bool true), (0, .oi 1, .int .i64 1, .oi 4), (13, .oi 4, .int .i64 0, .bool true), (0, .oi 4, .int .i64 1, .oi 12), (11, .oi 12, .oi 3, .bool true), (14, .oi 12, .int .i64 0, .bool true)]
theorem rowsTF_ok (h : TxOk p.x) : ∀ r ∈ rowsTF, IbOk (ivP p k) r := by
  have h1 := h.a7; have h2 := h.t2; have h3 : p.x.t1 = p.x.tot + wd p.x.la := rfl
  have w1 : wd p.x.la = 3 + (p.x.la * 2 + 7) / 8 := rfl
  exact rLt (rGt (rMul (rAdd (rSub (rQuo (rAdd (rSub (rGt ibNil))))))))
theorem rowsAF_ok (h : TxOk p.x) : ∀ r ∈ rowsAF, IbOk (ivP p k) r := by
  have h1 := t1_gt p.x; have h2 := h.t2
  exact rLt (rGe (rAdd (rGt (rAdd (rLt (rGe ibNil))))))
theorem icTF_ok (h : TxOk p.x) : ∀ r ∈ ([(.u64, .oi 0, .oi 13)] : List (IntKind × AV × AV)), IcOk' (ivP p k) r := by
  have h1 := h.a7
  exact rConv icNil (h := wrapU64 (by omega) (by omega))
theorem vaSF_ok (h : TxOk p.x) {l : List VA} (t : ∀ r ∈ l, VaOk (ivP p k) (vvP p k) (vkP p k) r) : ∀ r ∈ (⟨1, 2, 1, [.oi 1], 4, 7⟩ : VA) :: l, VaOk (ivP p k) (vvP p k) (vkP p k) r := by
  have h1 := h.c2
  exact aN (K := .i64) (n := p.x.cnt) (e := p.x.S) (e' := p.x.S1) (x := .oi 1) t (hy := by show some ((IntKind.i64, (p.x.tot : Int)) : IntKind × Int) = some (.i64, p.x.S1 p.x.cnt); rw [S1_tot]) (h1 := fun m hm => if_pos hm)
theorem vzTF_ok (h : TxOk p.x) : ∀ r ∈ ([⟨0, 1, 1, 5, [.int .u64 0], 26, 3⟩] : List VZ), VzOk (ivP p k) (vvP p k) (vkP p k) r :=
  zN (n := p.x.tot) (c := wd p.x.la) (e := fun m => wI (p.x.W m)) (e' := fun m => wI (p.x.WZ m)) allNil (hl := by have := h.t2; show p.x.t1 < 1000000; omega) (h1 := fun m hm => congrArg wI (if_pos hm)) (h0 := fun m hm => congrArg wI (if_neg (Nat.not_lt.2 hm)))
theorem vsTF_ok (h : TxOk p.x) : ∀ r ∈ ([⟨26, 1, 1, 0, [.int .u64 1], 27⟩, ⟨27, 12, 1, 0, [.oi 13], 28⟩] : List VS), VsOk (ivP p k) (vvP p k) (vkP p k) r := by
  have h1 := t1_gt p.x; have h2 := h.a7
  have n0 := w0_n p.x (by omega) 0
  have r1 := sN (K := .u64) (n := p.x.t1) (q := p.x.tot + 2) (i := 27) (j := 12) (i' := 28) (x := .oi 13) (e := fun m => wI (p.x.WY m)) (e' := fun m => wI (p.x.w 0 m)) (iv := ivP p k) (vv := vvP p k) (vk := vkP p k) allNil (hy := congrArg (fun z => some (IntKind.u64, z)) n0.symm) (hw := fun m _ hm => congrArg wI (w0_ne p.x m hm))
  exact sN (K := .u64) (n := p.x.t1) (q := p.x.tot) (i := 26) (j := 1) (i' := 27) (x := .int .u64 1) (e := fun m => wI (p.x.WZ m)) (e' := fun m => wI (p.x.WY m)) r1 (hy := by show some ((IntKind.u64, (1 : Int)) : IntKind × Int) = some (.u64, wI (p.x.WY p.x.tot)); rw [show p.x.WY p.x.tot = 1#64 from if_pos rfl]; rfl) (hw := fun m _ hm => congrArg wI (if_neg hm))
theorem vaZF_ok (h : TxOk p.x) (hz : p.x.la = 0) : ∀ r ∈ ([⟨0, 1, 1, [.int .u64 0, .int .u64 0, .int .u64 0], 26, 3⟩, ⟨1, 2, 1, [.oi 1], 4, 7⟩] : List VA), VaOk (ivP p k) (vvP p k) (vkP p k) r := by
  have e := t1z hz
  have h2 := h.t2
  exact aK (n := p.x.tot) (c := 3) (K := .u64) (e := fun m => wI (p.x.W m)) (e' := fun m => wI (p.x.WZ m)) (vaSF_ok h allNil) rfl (by rw [← e]; rfl) rfl (by rw [← e]; rfl) (by rw [← e]; rfl) (by omega) (fun m hm => congrArg wI (if_pos hm)) (fun m hm => congrArg wI (if_neg (by omega)))
theorem vsZF_ok (h : TxOk p.x) (hz : p.x.la = 0) : ∀ r ∈ ([⟨26, 1, 1, 0, [.int .u64 1], 27⟩, ⟨27, 12, 1, 0, [.int .u64 0], 3⟩] : List VS), VsOk (ivP p k) (vvP p k) (vkP p k) r := by
  have h1 := t1_gt p.x; have h2 := h.a7
  have n0 := w0_n p.x (by omega) p.x.la
  have y1 : ∀ m, p.x.w p.x.la m = p.x.WY m := fun m => by
    by_cases c : m = p.x.tot
    · rw [c, show p.x.WY p.x.tot = 1#64 from if_pos rfl]
      show wn p.x.tot p.x.la p.x.A p.x.W p.x.la (p.x.tot + 0) = _
      rw [wn_hi]; rfl
    · rw [wz hz m c]; exact (if_neg c).symm
  have r1 := sN (K := .u64) (n := p.x.t1) (q := p.x.tot + 2) (i := 27) (j := 12) (i' := 3) (x := .int .u64 0) (e := fun m => wI (p.x.WY m)) (e' := fun m => wI (p.x.w p.x.la m)) (iv := ivP p k) (vv := vvP p k) (vk := vkP p k) allNil (hy := by show some ((IntKind.u64, (0 : Int)) : IntKind × Int) = some (.u64, wI (p.x.w p.x.la (p.x.tot + 2))); rw [n0, hz]; rfl) (hw := fun m _ hm => congrArg wI (y1 m))
  exact sN (K := .u64) (n := p.x.t1) (q := p.x.tot) (i := 26) (j := 1) (i' := 27) (x := .int .u64 1) (e := fun m => wI (p.x.WZ m)) (e' := fun m => wI (p.x.WY m)) r1 (hy := by show some ((IntKind.u64, (1 : Int)) : IntKind × Int) = some (.u64, wI (p.x.WY p.x.tot)); rw [show p.x.WY p.x.tot = 1#64 from if_pos rfl]; rfl) (hw := fun m _ hm => congrArg wI (if_neg hm))
end
noncomputable abbrev RTF (p : P) (h : TxOk p.x) : Rw (ivP p 0) (vvP p 0) (vkP p 0) (fgP p) (txP p 0) where
  vvp := vvPp p 0
  ib := rowsTF ++ rowsAF
  ibok := catR (rowsTF_ok h) (rowsAF_ok h)
  ic := [(.u64, .oi 0, .oi 13)]
  icok := icTF_ok h
  va := [⟨1, 2, 1, [.oi 1], 4, 7⟩]
  vaok := vaSF_ok h allNil
  vz := [⟨0, 1, 1, 5, [.int .u64 0], 26, 3⟩]
  vzok := vzTF_ok h
  vs := [⟨26, 1, 1, 0, [.int .u64 1], 27⟩, ⟨27, 12, 1, 0, [.oi 13], 28⟩]
  vsok := vsTF_ok h
noncomputable abbrev RTZF (p : P) (h : TxOk p.x) (hz : p.x.la = 0) : Rw (ivP p 0) (vvP p 0) (vkP p 0) (fgP p) (txP p 0) where
  vvp := vvPp p 0
  ib := (1, .int .i64 2048, .oi 1, .oi 6) :: (13, .int .i64 3, .oi 6, .bool false) :: (0, .oi 1, .int .i64 3, .oi 3) :: rowsAF
  ibok := by
    have h1 := t1z hz; have h2 := h.t2
    exact rSub (rGt (rAdd (rowsAF_ok h)))
  va := [⟨0, 1, 1, [.int .u64 0, .int .u64 0, .int .u64 0], 26, 3⟩, ⟨1, 2, 1, [.oi 1], 4, 7⟩]
  vaok := vaZF_ok h hz
  vs := [⟨26, 1, 1, 0, [.int .u64 1], 27⟩, ⟨27, 12, 1, 0, [.int .u64 0], 3⟩]
  vsok := vsZF_ok h hz
/- its states -/
/-- the foreign slice holds the text's chars -/
structure FOk (p : P) : Prop where
  fv : (fgP p).fv 1 = numV .u16 p.x.la p.x.A
noncomputable def preF : BL := [(9898, mp), (9899, hp 20001 1 20002 2), (20001, .vec 0), (20002, .vec 1), (13316, shp)]
noncomputable def bsF (v a b : Nat) : BS := (30001, a, .vec v) :: (30002, b, .vec 4) :: (9899, 9899, hp 30001 3 30002 7) :: (9898, 9898, mp) :: (13316, 13316, shp) :: []
noncomputable abbrev srcF : AV := .fo 1 0 1
noncomputable abbrev ipLF (k : Nat) : IP := [(.fo 1 0 1, 1), (.oi 0, 0), (.oi 1, 1), (.oi 2, 2), (.oi 3, 3), (.oi 4, 4), (.oi 7, 7), (.oi k, 40)]
noncomputable abbrev rlF (a b : Nat) : List (Nat × Nat) := [(30001, a), (30002, b)]
noncomputable abbrev vpTF (a v v' b : Nat) : VP := [(a, .vec v, v'), (b, .vec 4, 4)]
noncomputable def tC : Code := codeOf Tryz.f9
theorem tC_eq : Tryz.f9.body = some tC := by kernel_rfl
noncomputable def tR : Code := hd (hd (restn 3 tC))
noncomputable def tX : Code := cIn (restn 3 tC)
noncomputable def tL : Code := lpIn (restn 2 tX)
theorem t3_eq : restn 3 tC = .seq (.seq tR (.cond (.tmp 18) tX .skip)) (restn 4 tC) := by kernel_rfl
theorem tX_eq : restn 2 tX = .block 0 (.loop tL) := by kernel_rfl
noncomputable abbrev fsAF : List (Nat × AV) := [(0, .ptr 9899 0), (1, srcF), (5, .oi 4)]
noncomputable abbrev fsA2F : List (Nat × AV) := (18, .bool true) :: fsAF
noncomputable abbrev fsLF : List (Nat × AV) := [(0, .ptr 9899 0), (1, srcF), (5, .oi 4), (29, srcF), (30, .oi 0), (31, .oi 40)]
noncomputable def cvAF (a b : Nat) : Cv := ⟨30000, 30004, ofPairs (rlF a b), ipLF 40⟩
def HAF (N : Nat) : Prop := ∀ p hh, firstTo (Pt (RTF p hh)) Tryz.prog KN 3000 Tryz.f9.ntmps 3 tC (T.ofList 0 .leaf [.ptr 9899 0, .fo 1 0 1]) (hIn N preF) (cvAF N (Nat.add N 2)) (vpTF N 27 27 (Nat.add N 2)) fsAF (bsF 27 N (Nat.add N 2)) = true
theorem hrF : ∀ p hh, runTo (Pt (RTF p hh)) Tryz.prog KN 3000 Tryz.f9.ntmps tR (frOf fsAF) (hOf 30004 (bsF 27 30001 30002)) .normal (cvAF 30001 30002) (vpTF 30001 27 27 30002) fsA2F (bsF 27 30001 30002) = true := fun p hh => by as_aux_lemma => kernel_rfl
noncomputable def cvIF : Cv := ⟨30000, 30004, ofPairs (rlF 30001 30002), [(.fo 1 0 1, 1), (.oi 0, 0), (.oi 1, 1), (.oi 2, 2), (.oi 3, 3), (.oi 4, 4), (.oi 7, 7), (.int .i64 0, 40)]⟩
theorem hiF : ∀ p hh, firstTo (Pt (RTF p hh)) Tryz.prog KN 3000 Tryz.f9.ntmps 2 tX (frOf fsA2F) (hOf 30004 (bsF 27 30001 30002)) cvIF (vpTF 30001 28 10 30002) fsLF (bsF 10 30001 30002) = true := fun p hh => by as_aux_lemma => kernel_rfl
noncomputable abbrev rowsWF : List BRow := [(11, .oi 40, .oi 0, .bool true), (14, .oi 40, .int .i64 0, .bool true), (3, .oi 40, .int .i64 4, .oi 44), (4, .oi 40, .int .i64 4, .oi 48), (2, .oi 48, .int .i64 2, .oi 49), (2, .oi 49, .int .i64 8, .oi 50), (0, .oi 40, .int .i64 1, .oi 41), (11, .oi 47, .oi 3, .bool true), (14, .oi 47, .int .i64 0, .bool true),
  (1, .oi 4, .int .i64 1, .oi 1), (0, .oi 1, .int .i64 3, .oi 46), (0, .oi 46, .oi 44, .oi 47)]
noncomputable abbrev rowsMF : List BRow := [(15, .int .u64 65535, .oi 50, .oi 56), (8, .oi 55, .oi 56, .oi 57), (15, .oi 60, .oi 50, .oi 61), (5, .oi 61, .oi 56, .oi 62), (6, .oi 57, .oi 62, .oi 63)]
section
variable {p : P} {k : Nat}
theorem rowsWF_ok (h : TxOk p.x) (hk : k < p.x.la) : ∀ r ∈ rowsWF, IbOk (ivP p k) r := by
  have h1 := h.a7; have h2 := wd_k hk; have h4 := h.t2
  have h3 : p.x.t1 = p.x.tot + wd p.x.la := rfl
  exact rLt (rGe (rQuo (rRem (rMul (rMul (rAdd (rLt (rGe (rSub (rAdd (rAdd ibNil)))))))))))
theorem rowsMF_ok : ∀ r ∈ rowsMF, IbOk (ivP p k) r := rShl (W := BitVec.ofNat 64 65535) (rAndNot (rShl (rAnd (rOr ibNil))))
theorem icWF_ok (h : TxOk p.x) : ∀ r ∈ ([(.i64, .oi 53, .oi 59), (.u64, .oi 59, .oi 60)] : List (IntKind × AV × AV)), IcOk' (ivP p k) r := by
  have h1 := h.hA k
  exact rConv (h := wrap64 (by omega) (by omega)) (rConv (h := u64OfInt _) icNil)
end
noncomputable abbrev RWF (p : P) (k : Nat) (h : TxOk p.x) (q : FOk p) (hk : k < p.x.la) : Rw (ivP p k) (vvP p k) (vkP p k) (fgP p) (txP p k) where
  vvp := vvPp p k
  ib := rowsWF ++ rowsMF
  ibok := catR (rowsWF_ok h hk) rowsMF_ok
  ic := [(.i64, .oi 53, .oi 59), (.u64, .oi 59, .oi 60)]
  icok := icWF_ok h
  vl := [⟨10, 47, 1, 0, [.oi 55]⟩]
  vlok := by
    have h2 := wd_k hk
    have h3 : p.x.t1 = p.x.tot + wd p.x.la := rfl
    as_aux_lemma => exact lN (allNil)
  fl := [⟨1, 40, 1, 0, [.oi 53]⟩]
  flok := by as_aux_lemma => exact fgN allNil (n := p.x.la) (e := p.x.A) (hv := q.fv)
  vs := [⟨10, 47, 1, 0, [.oi 63], 11⟩]
  vsok := by
    have h2 := wd_k hk
    have h3 : p.x.t1 = p.x.tot + wd p.x.la := rfl
    as_aux_lemma => exact sN (q := p.x.tot + 3 + k / 4) (e' := fun m => wI (p.x.w (k + 1) m)) allNil (hy := congrArg (fun z => some (IntKind.u64, wI z)) (w_eq p.x k).symm) (hw := fun m _ hm => congrArg wI (w_ne p.x k m hm))
noncomputable def cvWF (k : Nat) : Cv := ⟨30000, 30004, ofPairs (rlF 30001 30002), ipLF k⟩
theorem hwF : ∀ p k h q hk, runTo (Pt (RWF p k h q hk)) Tryz.prog Hand.none 3000 Tryz.f9.ntmps tL (frOf fsLF) (hOf 30004 (bsF 10 30001 30002)) .normal (cvWF 41) (vpTF 30001 11 10 30002) fsLF (bsF 10 30001 30002) = true := fun p k h q hk => by as_aux_lemma => kernel_rfl
abbrev RYF (p : P) (k : Nat) (hk : ¬ k < p.x.la) : Rw (ivP p k) (vvP p k) (vkP p k) (fgP p) (txP p k) where
  vvp := vvPp p k
  ib := [(11, .oi 40, .oi 0, .bool false)]
  ibok := by as_aux_lemma => exact rLt ibNil
theorem hyF : ∀ p k hk, runTo (Pt (RYF p k hk)) Tryz.prog Hand.none 3000 Tryz.f9.ntmps tL (frOf fsLF) (hOf 30004 (bsF 10 30001 30002)) (.exit 0) (cvWF 40) (vpTF 30001 10 10 30002) fsLF (bsF 10 30001 30002) = true := fun p k hk => by as_aux_lemma => kernel_rfl
noncomputable def postF (N : Nat) (a b : Nat) : BS := (Nat.add N 1, a, .vec 3) :: (Nat.add N 2, b, .vec 4) :: (9899, 9899, hp (Nat.add N 1) 3 (Nat.add N 2) 7) :: (9898, 9898, mp) :: (13316, 13316, shp) :: []
noncomputable abbrev ipZF : IP := [(.fo 1 0 1, 1), (.oi 0, 0), (.oi 1, 1), (.oi 2, 2), (.oi 3, 3), (.oi 4, 4), (.oi 7, 7)]
noncomputable abbrev rlZF (N : Nat) (a b : Nat) : List (Nat × Nat) := [(Nat.add N 1, a), (Nat.add N 2, b)]
noncomputable def cvZF (N : Nat) (a b : Nat) : Cv := ⟨N, Nat.add N 40, ofPairs (rlZF N a b), ipZF⟩
def HZF (N : Nat) : Prop := ∀ p k, runTo (T0 p k) Tryz.prog Hand.none 3000 Tryz.f9.ntmps (restn 4 tC) (frOf fsLF) (hOf 30004 (bsF 10 30001 30002)) .ret (cvZF N 30001 30002) [(30001, .vec 10, 3), (30002, .vec 4, 4)] [(4, .oi 4)] (postF N 30001 30002) = true
def SWF (p : P) (k : Nat) (B : Kp) (w0 : World) (μ : M) (a : Act) (w : World) : Prop := St (T0 p k) B w0 μ Tryz.f9.ntmps (frOf fsLF) (hOf 30004 (bsF 10 30001 30002)) a w
section
variable {p : P} {k : Nat} {B : Kp} {w0 : World} {μ : M} {a : Act} {w : World}
theorem vpSF {k k' : Nat} {T T' : Tab} {C : Cv} {x v v' : Nat} {e e' : Nat → Int} (y : Nat) (h1 : T.vv = vvP p k := by exact rfl) (h2 : T'.vv = vvP p k' := by exact rfl) (h3 : T.vk = vkP p k := by exact rfl) (h4 : T'.vk = vkP p k' := by exact rfl) (g1 : T.vv v = numV .u64 p.x.t1 e := by exact rfl) (g2 : T'.vv v' = numV .u64 p.x.t1 e' := by exact rfl) (g3 : T.vk v = p.x.t1 := by exact rfl) (g4 : T'.vk v' = p.x.t1 := by exact rfl) (he : ∀ m, m < p.x.t1 → e' m = e m := by exact fun _ _ => rfl) : VpOk T T' C (vpTF x v v' y) :=
  vpNum (K := .u64) (n := p.x.t1) (e := e) (e' := e') (vpNum (K := .i64) (n := p.x.cnt + 1) (e := p.x.S1) (e' := p.x.S1) (vpNil) (by rw [h1]; rfl) (by rw [h2]; rfl) (by rw [h3]; rfl) (by rw [h4]; rfl) (fun _ _ => rfl)) g1 g2 g3 g4 he
theorem wRoundF (h : TxOk p.x) (q : FOk p) (hb : Base B μ 30000) (hk : k < p.x.la) (s : SWF p k B w0 μ a w) : tL.wp Tryz.prog (fun e a' w' => e = .normal ∧ SWF p (k + 1) B w0 μ a' w') a w :=
  runTo_sound (T := Pt (RWF p k h q hk)) (T' := T0 p (k + 1)) mixed hNo (C := cvWF 41) (ex := .normal) hb (show 30000 ≤ 30004 by decide) (rl := rlF 30001 30002) rfl (by kernel_rfl) (ipG (ipE (ipE (ipE (ipE (ipE (ipE (ipE (ipNil))))))))) (vpSF (p := p) (k := k) (k' := k + 1) (e := fun m => wI (p.x.w (k + 1) m)) (e' := fun m => wI (p.x.w (k + 1) m)) 30002) (glL (p := p)) (hwF p k h q hk) (St.same (Pt.same _ _) s)
theorem wExitF (hb : Base B μ 30000) (hk : ¬ k < p.x.la) (s : SWF p k B w0 μ a w) : tL.wp Tryz.prog (fun e a' w' => e = .exit 0 ∧ SWF p k B w0 μ a' w') a w :=
  runTo_sound (T := Pt (RYF p k hk)) (T' := T0 p k) mixed hNo (C := cvWF 40) (ex := .exit 0) hb (show 30000 ≤ 30004 by decide) (rl := rlF 30001 30002) rfl (by kernel_rfl) (ipG (ipE (ipE (ipE (ipE (ipE (ipE (ipE (ipNil))))))))) (vpSF (p := p) (k := k) (k' := k) (e := fun m => wI (p.x.w k m)) (e' := fun m => wI (p.x.w k m)) 30002) (glL (p := p)) (hyF p k hk) (St.same (Pt.same _ _) s)
theorem wRoundsF (h : TxOk p.x) (q : FOk p) (hb : Base B μ 30000) : ∀ (j k : Nat) (a : Act) (w : World), k + j = p.x.la + 1 → k ≤ p.x.la → SWF p k B w0 μ a w → Code.rounds Tryz.prog tL (fun e a w => e = .exit 0 ∧ SWF p p.x.la B w0 μ a w) j a w
  | 0, k, a, w, h1, h2, s => by omega
  | j + 1, k, a, w, h1, h2, s => by
    by_cases hk : k < p.x.la
    · refine rounds_of (wp_mono (wRoundF h q hb hk s) ?_)
      rintro e a' w' ⟨rfl, s'⟩
      exact wRoundsF h q hb j (k + 1) a' w' (by omega) (by omega) s'
    · have hkL : k = p.x.la := by omega
      refine rounds_of (wp_mono (wExitF hb hk s) ?_)
      rintro e a' w' ⟨rfl, s'⟩
      rw [hkL] at s'
      exact ⟨rfl, s'⟩
end
noncomputable def txIF (N : Nat) : In := ⟨9, [.ptr 9899 0, .fo 1 0 1], N, preF, .oi 4, Nat.add N 40, bsOf (postF N 30001 30002)⟩
theorem txIF_ok {p : P} {N : Nat} (h : TxOk p.x) (q : FOk p) (ga : HAF N) (gz : HZF N) (hN : N ≤ 30000) (l : okLim (txIF N).bs' = true) (hl : hasAll (hOf (Nat.add N 40) (postF N 30001 30002)) (txIF N).bs' = true) (rk1 : okRn (cvAF N (Nat.add N 2)) (rlF N (Nat.add N 2)) = true) (rk2 : okRn (cvZF N 30001 30002) (rlZF N 30001 30002) = true)
    (hr : results? Tryz.prog Tryz.f9 (frOf [(4, .oi 4)]) (hOf (Nat.add N 40) (postF N 30001 30002)) = some (.oi 4)) : @InOk Tryz.prog (txIF N) (TP p) := by
  letI : Tab := TP p
  refine ⟨l, hOf (Nat.add N 40) (postF N 30001 30002), ?_, hOf_next'.symm, hl⟩
  refine callOk_of (fn := Tryz.f9) Tryz.func9 tC_eq (show 2 ≤ Tryz.f9.ntmps by decide +kernel) (show 2 < limit by decide) fun B w0 μ a0 w hb s0 => ?_
  have hb : Base B μ N := by
    have h := hb
    rw [show (hIn (txIF N).N (txIF N).bs).next = N from hIn_next] at h
    exact h
  have hbU : Base B μ 30000 := baseUp hb hN
  refine firstTo_sound (T := Pt (RTF p h)) (T' := TP p) (n := 3) mixed (K := KN) KN_ok (C := cvAF N (Nat.add N 2)) (rl := rlF N (Nat.add N 2)) (fs := fsAF) (bs := bsF 27 N (Nat.add N 2))
    hbU (show 30000 ≤ 30004 by decide) rfl rk1 (ipG (ipE (ipE (ipE (ipE (ipE (ipE (ipE (ipNil))))))))) (vpSF (p := p) (k := 0) (k' := 0) (e := fun m => wI (p.x.WY m)) (e' := fun m => wI (p.x.WY m)) (Nat.add N 2)) (glL (p := p)) (ga p h) (St.same (Pt.same _ _) s0) fun a1 w1 s1 => ?_
  have s1 : St (TP p) B w0 μ Tryz.f9.ntmps (frOf fsAF) (hOf 30004 (bsF 27 30001 30002)) a1 w1 := s1
  rw [t3_eq]
  refine wp_seq (wp_seq (wp_mono (runTo_sound (T := Pt (RTF p h)) (T' := TP p) mixed (K := KN) KN_ok (C := cvAF 30001 30002) (ex := .normal) hbU (show 30000 ≤ 30004 by decide) (rl := rlF 30001 30002) rfl (by kernel_rfl) (ipG (ipE (ipE (ipE (ipE (ipE (ipE (ipE (ipNil))))))))) (vpSF (p := p) (k := 0) (k' := 0) (e := fun m => wI (p.x.WY m)) (e' := fun m => wI (p.x.WY m)) 30002) (glL (p := p)) (hrF p h) (St.same (Pt.same _ _) s1)) ?_))
  rintro e a2 w2 ⟨rfl, s2⟩
  show (Code.cond (.tmp 18) tX .skip).wp _ _ _ _
  refine wp_cond (t := true) (St.evB s2 (by kernel_rfl)) ?_
  show tX.wp _ _ _ _
  refine firstTo_sound (T := Pt (RTF p h)) (T' := TP p) (n := 2) mixed (K := KN) KN_ok (C := cvIF) (rl := rlF 30001 30002) (fs := fsLF) (bs := bsF 10 30001 30002)
    hbU (show 30000 ≤ 30004 by decide) rfl (by kernel_rfl) (ipG (ipE (ipE (ipE (ipE (ipE (ipE (ipK' ipNil (e := rfl))))))))) (vpSF (p := p) (k := 0) (k' := 0) (e := fun m => wI (p.x.w 0 m)) (e' := fun m => wI (p.x.w 0 m)) 30002) (glL (p := p)) (hiF p h) (St.same (Pt.same _ _) s2) fun a3 w3 s3 => ?_
  rw [tX_eq]
  refine wp_block (wp_mono (wp_loop_rounds (Q := fun e a w => e = .exit 0 ∧ SWF p p.x.la B w0 μ a w) (p.x.la + 1) (wRoundsF h q hbU (p.x.la + 1) 0 a3 w3 (by omega) (Nat.zero_le _) s3)) ?_)
  rintro e a4 w4 ⟨rfl, s4⟩
  show (restn 4 tC).wp _ _ _ _
  refine wp_mono (runTo_sound (T := T0 p p.x.la) (T' := TP p) mixed hNo (C := cvZF N 30001 30002) (ex := .ret) hb (Nat.le_add_right N 40) (rl := rlZF N 30001 30002) rfl rk2 (ipG (ipE (ipE (ipE (ipE (ipE (ipE (ipNil)))))))) (vpNum (n := p.x.t1) (e := fun m => wI (p.x.w p.x.la m)) (e' := fun m => wI (p.x.w p.x.la m)) (vpNum (n := p.x.cnt + 1) (e := p.x.S1) (e' := p.x.S1) vpNil)) (glL (p := p)) (gz p p.x.la) s4) ?_
  rintro e a5 w5 ⟨rfl, s5⟩
  exact St.done (τ := TP p) (e := .ret) (.inr rfl) hr s5
/- an empty one -/
noncomputable def preE (e : BL) : BL := preF ++ e
noncomputable def postE (N : Nat) (e : BL) : BS := (Nat.add N 1, N, .vec 3) :: (Nat.add N 2, Nat.add N 2, .vec 4) :: (9899, 9899, hp (Nat.add N 1) 3 (Nat.add N 2) 7) :: (9898, 9898, mp) :: (13316, 13316, shp) :: same e
noncomputable def cvE (N : Nat) : Cv := ⟨N, Nat.add N 40, ofPairs [(Nat.add N 1, N), (Nat.add N 2, Nat.add N 2)], [(.oi 0, 0), (.oi 1, 1), (.oi 2, 2), (.oi 3, 3), (.oi 4, 4), (.oi 7, 7)]⟩
def HE (N : Nat) (s : AV) (e : BL) : Prop := ∀ p hh hz, runTo (Pt (RTZF p hh hz)) Tryz.prog KN 3000 Tryz.f9.ntmps tC (T.ofList 0 .leaf [.ptr 9899 0, s]) (hIn N (preE e)) .ret (cvE N) [(N, .vec 3, 3), (Nat.add N 2, .vec 4, 4)] [(4, .oi 4)] (postE N e) = true
noncomputable def teI (N : Nat) (s : AV) (e : BL) : In := ⟨9, [.ptr 9899 0, s], N, preE e, .oi 4, Nat.add N 40, bsOf (postE N e)⟩
theorem teI_ok {p : P} {N : Nat} {s : AV} {e : BL} (h : TxOk p.x) (hz : p.x.la = 0) (E : HE N s e) (l : okLim (teI N s e).bs' = true) (hl : hasAll (hOf (Nat.add N 40) (postE N e)) (teI N s e).bs' = true) (rk : okRn (cvE N) [(Nat.add N 1, N), (Nat.add N 2, Nat.add N 2)] = true)
    (hr : results? Tryz.prog Tryz.f9 (frOf [(4, .oi 4)]) (hOf (Nat.add N 40) (postE N e)) = some (.oi 4)) : @InOk Tryz.prog (teI N s e) (TP p) := by
  letI : Tab := TP p
  refine ⟨l, hOf (Nat.add N 40) (postE N e), ?_, hOf_next'.symm, hl⟩
  refine callOk_of (fn := Tryz.f9) Tryz.func9 tC_eq (show 2 ≤ Tryz.f9.ntmps by decide +kernel) (show 2 < limit by decide) fun B w0 μ a0 w hb st => ?_
  have hb : Base B μ N := by
    have h := hb
    rw [show (hIn (teI N s e).N (teI N s e).bs).next = N from hIn_next] at h
    exact h
  refine wp_mono (runTo_sound (T := Pt (RTZF p h hz)) (T' := TP p) mixed (K := KN) KN_ok (C := cvE N) (ex := .ret) hb (Nat.le_add_right N 40) (rl := [(Nat.add N 1, N), (Nat.add N 2, Nat.add N 2)]) rfl rk (ipE (ipE (ipE (ipE (ipE (ipE ipNil)))))) (vpNum (n := p.x.t1) (e := fun m => wI (p.x.w p.x.la m)) (e' := fun m => wI (p.x.w p.x.la m)) (vpNum (n := p.x.cnt + 1) (e := p.x.S1) (e' := p.x.S1) vpNil)) (glL (p := p)) (E p h hz) (St.same (Pt.same _ _) st)) ?_
  rintro e a4 w4 ⟨rfl, s4⟩
  exact St.done (τ := TP p) (e := .ret) (.inr rfl) hr s4
theorem haF : HAF 20010 := fun p h => by as_aux_lemma => kernel_rfl
theorem hzF : HZF 20010 := fun p k => by as_aux_lemma => kernel_rfl
theorem txF_ok {p : P} (h : TxOk p.x) (q : FOk p) : @InOk Tryz.prog (txIF 20010) (TP p) := txIF_ok h q haF hzF (by decide) (by kernel_rfl) (by kernel_rfl) (by kernel_rfl) (by kernel_rfl) (by kernel_rfl)
theorem heN : HE 20010 .nils [] := fun p h hz => by as_aux_lemma => kernel_rfl
theorem heE : HE 20010 .es [] := fun p h hz => by as_aux_lemma => kernel_rfl
theorem teN_ok {p : P} (h : TxOk p.x) (hz : p.x.la = 0) : @InOk Tryz.prog (teI 20010 .nils []) (TP p) := teI_ok h hz heN (by kernel_rfl) (by kernel_rfl) (by kernel_rfl) (by kernel_rfl)
theorem teE_ok {p : P} (h : TxOk p.x) (hz : p.x.la = 0) : @InOk Tryz.prog (teI 20010 .es []) (TP p) := teI_ok h hz heE (by kernel_rfl) (by kernel_rfl) (by kernel_rfl) (by kernel_rfl)
end Go.Proofs.YtkkaifeiopjjdaaGreatDoor.bd
