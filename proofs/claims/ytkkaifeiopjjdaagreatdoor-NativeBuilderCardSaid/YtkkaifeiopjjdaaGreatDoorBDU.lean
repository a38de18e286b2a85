/-
  The law NativeBuilder: a text is made from an own vector.
-/
import Derived.Test.YtkkaifeiopjjdaaGreatDoorBDT
set_option linter.unusedVariables false
set_option linter.unusedSimpArgs false
set_option linter.unusedSectionVars false
set_option maxRecDepth 1000000
set_option maxHeartbeats 0
namespace Go.Proofs.YtkkaifeiopjjdaaGreatDoor.bd
open Go.X Go.RowKit Go.Proofs

/- a text is made (V) -/
section
variable {p : P} {k : Nat}
noncomputable abbrev rowsTV : List BRow := [(11, .oi 0, .int .i64 0, .bool false), (13, .oi 0, .int .i64 2147483647, .bool false),
  (2, .oi 0, .int .i64 2, .oi 8), (0, .oi 8, .int .i64 8, .oi 9), (1, .oi 9, .int .i64 1, .oi 10), (3, .oi 10, .int .i64 8, .oi 11), (0, .int .i64 3, .oi 11, .oi 5),
  (1, .int .i64 2048, .oi 1, .oi 6), (13, .oi 5, .oi 6, .bool false)]
noncomputable abbrev rowsAV : List BRow := [(11, .oi 1, .oi 3, .bool true), (14, .oi 1, .int .i64 0, .bool true), (0, .oi 1, .int .i64 1, .oi 4), (13, .oi 4, .int .i64 0, .bool true), (0, .oi 4, .int .i64 1, .oi 12), (11, .oi 12, .oi 3, .bool true), (14, .oi 12, .int .i64 0, .bool true)]
theorem rowsTV_ok (h : TxOk p.x) : ∀ r ∈ rowsTV, IbOk (ivP p k) r := by
  have h1 := h.a7; have h2 := h.t2; have h3 : p.x.t1 = p.x.tot + wd p.x.la := rfl
  have w1 : wd p.x.la = 3 + (p.x.la * 2 + 7) / 8 := rfl
  exact rLt (rGt (rMul (rAdd (rSub (rQuo (rAdd (rSub (rGt ibNil))))))))
theorem rowsAV_ok (h : TxOk p.x) : ∀ r ∈ rowsAV, IbOk (ivP p k) r := by
  have h1 := t1_gt p.x; have h2 := h.t2
  exact rLt (rGe (rAdd (rGt (rAdd (rLt (rGe ibNil))))))
theorem icTV_ok (h : TxOk p.x) : ∀ r ∈ ([(.u64, .oi 0, .oi 13)] : List (IntKind × AV × AV)), IcOk' (ivP p k) r := by
  have h1 := h.a7
  exact rConv icNil (h := wrapU64 (by omega) (by omega))
theorem vaSV_ok (h : TxOk p.x) {l : List VA} (t : ∀ r ∈ l, VaOk (ivP p k) (vvP p k) (vkP p k) r) : ∀ r ∈ (⟨1, 2, 1, [.oi 1], 4, 7⟩ : VA) :: l, VaOk (ivP p k) (vvP p k) (vkP p k) r := by
  have h1 := h.c2
  exact aN (K := .i64) (n := p.x.cnt) (e := p.x.S) (e' := p.x.S1) (x := .oi 1) t (hy := by show some ((IntKind.i64, (p.x.tot : Int)) : IntKind × Int) = some (.i64, p.x.S1 p.x.cnt); rw [S1_tot]) (h1 := fun m hm => if_pos hm)
theorem vzTV_ok (h : TxOk p.x) : ∀ r ∈ ([⟨0, 1, 1, 5, [.int .u64 0], 26, 3⟩] : List VZ), VzOk (ivP p k) (vvP p k) (vkP p k) r :=
  zN (n := p.x.tot) (c := wd p.x.la) (e := fun m => wI (p.x.W m)) (e' := fun m => wI (p.x.WZ m)) allNil (hl := by have := h.t2; show p.x.t1 < 1000000; omega) (h1 := fun m hm => congrArg wI (if_pos hm)) (h0 := fun m hm => congrArg wI (if_neg (Nat.not_lt.2 hm)))
theorem vsTV_ok (h : TxOk p.x) : ∀ r ∈ ([⟨26, 1, 1, 0, [.int .u64 1], 27⟩, ⟨27, 12, 1, 0, [.oi 13], 28⟩] : List VS), VsOk (ivP p k) (vvP p k) (vkP p k) r := by
  have h1 := t1_gt p.x; have h2 := h.a7
  have n0 := w0_n p.x (by omega) 0
  have r1 := sN (K := .u64) (n := p.x.t1) (q := p.x.tot + 2) (i := 27) (j := 12) (i' := 28) (x := .oi 13) (e := fun m => wI (p.x.WY m)) (e' := fun m => wI (p.x.w 0 m)) (iv := ivP p k) (vv := vvP p k) (vk := vkP p k) allNil (hy := congrArg (fun z => some (IntKind.u64, z)) n0.symm) (hw := fun m _ hm => congrArg wI (w0_ne p.x m hm))
  exact sN (K := .u64) (n := p.x.t1) (q := p.x.tot) (i := 26) (j := 1) (i' := 27) (x := .int .u64 1) (e := fun m => wI (p.x.WZ m)) (e' := fun m => wI (p.x.WY m)) r1 (hy := by show some ((IntKind.u64, (1 : Int)) : IntKind × Int) = some (.u64, wI (p.x.WY p.x.tot)); rw [show p.x.WY p.x.tot = 1#64 from if_pos rfl]; rfl) (hw := fun m _ hm => congrArg wI (if_neg hm))
theorem vaZV_ok (h : TxOk p.x) (hz : p.x.la = 0) : ∀ r ∈ ([⟨0, 1, 1, [.int .u64 0, .int .u64 0, .int .u64 0], 26, 3⟩, ⟨1, 2, 1, [.oi 1], 4, 7⟩] : List VA), VaOk (ivP p k) (vvP p k) (vkP p k) r := by
  have e := t1z hz
  have h2 := h.t2
  exact aK (n := p.x.tot) (c := 3) (K := .u64) (e := fun m => wI (p.x.W m)) (e' := fun m => wI (p.x.WZ m)) (vaSV_ok h allNil) rfl (by rw [← e]; rfl) rfl (by rw [← e]; rfl) (by rw [← e]; rfl) (by omega) (fun m hm => congrArg wI (if_pos hm)) (fun m hm => congrArg wI (if_neg (by omega)))
theorem vsZV_ok (h : TxOk p.x) (hz : p.x.la = 0) : ∀ r ∈ ([⟨26, 1, 1, 0, [.int .u64 1], 27⟩, ⟨27, 12, 1, 0, [.int .u64 0], 3⟩] : List VS), VsOk (ivP p k) (vvP p k) (vkP p k) r := by
  have h1 := t1_gt p.x; have h2 := h.a7
  have n0 := w0_n p.x (by omega) p.x.la
  have y1 : ∀ m, p.x.w p.x.la m = p.x.WY m := fun m => by
    by_cases c : m = p.x.tot
    · rw [c, show p.x.WY p.x.tot = 1#64 from if_pos rfl]
      show wn p.x.tot p.x.la p.x.A p.x.W p.x.la (p.x.tot + 0) = _
      rw [wn_hi]; rfl
    · rw [wz hz m c]; exact (if_neg c).symm
  have r1 := sN (K := .u64) (n := p.x.t1) (q := p.x.tot + 2) (i := 27) (j := 12) (i' := 3) (x := .int .u64 0) (e := fun m => wI (p.x.WY m)) (e' := fun m => wI (p.x.w p.x.la m)) (iv := ivP p k) (vv := vvP p k) (vk := vkP p k) allNil (hy := by show some ((IntKind.u64, (0 : Int)) : IntKind × Int) = some (.u64, wI (p.x.w p.x.la (p.x.tot + 2))); rw [n0, hz]; rfl) (hw := fun m _ hm => congrArg wI (y1 m))
  exact sN (K := .u64) (n := p.x.t1) (q := p.x.tot) (i := 26) (j := 1) (i' := 27) (x := .int .u64 1) (e := fun m => wI (p.x.WZ m)) (e' := fun m => wI (p.x.WY m)) r1 (hy := by show some ((IntKind.u64, (1 : Int)) : IntKind × Int) = some (.u64, wI (p.x.WY p.x.tot)); rw [show p.x.WY p.x.tot = 1#64 from if_pos rfl]; rfl) (hw := fun m _ hm => congrArg wI (if_neg hm))
end
noncomputable abbrev RTV (p : P) (h : TxOk p.x) : Rw (ivP p 0) (vvP p 0) (vkP p 0) (fgP p) (txP p 0) where
  vvp := vvPp p 0
  ib := rowsTV ++ rowsAV
  ibok := catR (rowsTV_ok h) (rowsAV_ok h)
  ic := [(.u64, .oi 0, .oi 13)]
  icok := icTV_ok h
  va := [⟨1, 2, 1, [.oi 1], 4, 7⟩]
  vaok := vaSV_ok h allNil
  vz := [⟨0, 1, 1, 5, [.int .u64 0], 26, 3⟩]
  vzok := vzTV_ok h
  vs := [⟨26, 1, 1, 0, [.int .u64 1], 27⟩, ⟨27, 12, 1, 0, [.oi 13], 28⟩]
  vsok := vsTV_ok h
noncomputable abbrev RTZV (p : P) (h : TxOk p.x) (hz : p.x.la = 0) : Rw (ivP p 0) (vvP p 0) (vkP p 0) (fgP p) (txP p 0) where
  vvp := vvPp p 0
  ib := (1, .int .i64 2048, .oi 1, .oi 6) :: (13, .int .i64 3, .oi 6, .bool false) :: (0, .oi 1, .int .i64 3, .oi 3) :: rowsAV
  ibok := by
    have h1 := t1z hz; have h2 := h.t2
    exact rSub (rGt (rAdd (rowsAV_ok h)))
  va := [⟨0, 1, 1, [.int .u64 0, .int .u64 0, .int .u64 0], 26, 3⟩, ⟨1, 2, 1, [.oi 1], 4, 7⟩]
  vaok := vaZV_ok h hz
  vs := [⟨26, 1, 1, 0, [.int .u64 1], 27⟩, ⟨27, 12, 1, 0, [.int .u64 0], 3⟩]
  vsok := vsZV_ok h hz
/- its states -/
noncomputable def preV (s : Nat) : BL := [(9898, mp), (9899, hp 20001 1 20002 2), (20001, .vec 0), (20002, .vec 1), (13316, shp), (s, .vec 5)]
noncomputable def bsV (v a b c : Nat) : BS := (30001, a, .vec v) :: (30002, b, .vec 4) :: (30003, c, .vec 5) :: (9899, 9899, hp 30001 3 30002 7) :: (9898, 9898, mp) :: (13316, 13316, shp) :: []
noncomputable abbrev src : AV := .ov 30003 0 1
noncomputable abbrev ipLV (k : Nat) : IP := [(.oi 0, 0), (.oi 1, 1), (.oi 2, 2), (.oi 3, 3), (.oi 4, 4), (.oi 7, 7), (.oi k, 40)]
noncomputable abbrev rlV (a b c : Nat) : List (Nat × Nat) := [(30001, a), (30002, b), (30003, c)]
noncomputable abbrev vpTV (a v v' b c : Nat) : VP := [(a, .vec v, v'), (b, .vec 4, 4), (c, .vec 5, 5)]
noncomputable abbrev fsAV : List (Nat × AV) := [(0, .ptr 9899 0), (1, src), (5, .oi 4)]
noncomputable abbrev fsA2V : List (Nat × AV) := (18, .bool true) :: fsAV
noncomputable abbrev fsLV : List (Nat × AV) := [(0, .ptr 9899 0), (1, src), (5, .oi 4), (29, src), (30, .oi 0), (31, .oi 40)]
noncomputable def cvAV (a b c : Nat) : Cv := ⟨30000, 30004, ofPairs (rlV a b c), ipLV 40⟩
def HAV (N s : Nat) : Prop := ∀ p hh, firstTo (Pt (RTV p hh)) Tryz.prog KN 3000 Tryz.f9.ntmps 3 tC (T.ofList 0 .leaf [.ptr 9899 0, (.ov s 0 1)]) (hIn N (preV s)) (cvAV N (Nat.add N 2) s) (vpTV N 27 27 (Nat.add N 2) s) fsAV (bsV 27 N (Nat.add N 2) s) = true
theorem hrV : ∀ p hh, runTo (Pt (RTV p hh)) Tryz.prog KN 3000 Tryz.f9.ntmps tR (frOf fsAV) (hOf 30004 (bsV 27 30001 30002 30003)) .normal (cvAV 30001 30002 30003) (vpTV 30001 27 27 30002 30003) fsA2V (bsV 27 30001 30002 30003) = true := fun p hh => by as_aux_lemma => kernel_rfl
noncomputable def cvIV : Cv := ⟨30000, 30004, ofPairs (rlV 30001 30002 30003), [(.oi 0, 0), (.oi 1, 1), (.oi 2, 2), (.oi 3, 3), (.oi 4, 4), (.oi 7, 7), (.int .i64 0, 40)]⟩
theorem hiV : ∀ p hh, firstTo (Pt (RTV p hh)) Tryz.prog KN 3000 Tryz.f9.ntmps 2 tX (frOf fsA2V) (hOf 30004 (bsV 27 30001 30002 30003)) cvIV (vpTV 30001 28 10 30002 30003) fsLV (bsV 10 30001 30002 30003) = true := fun p hh => by as_aux_lemma => kernel_rfl
noncomputable abbrev rowsWV : List BRow := [(11, .oi 40, .oi 0, .bool true), (14, .oi 40, .int .i64 0, .bool true), (3, .oi 40, .int .i64 4, .oi 44), (4, .oi 40, .int .i64 4, .oi 48), (2, .oi 48, .int .i64 2, .oi 49), (2, .oi 49, .int .i64 8, .oi 50), (0, .oi 40, .int .i64 1, .oi 41), (11, .oi 47, .oi 3, .bool true), (14, .oi 47, .int .i64 0, .bool true),
  (1, .oi 4, .int .i64 1, .oi 1), (0, .oi 1, .int .i64 3, .oi 46), (0, .oi 46, .oi 44, .oi 47)]
noncomputable abbrev rowsMV : List BRow := [(15, .int .u64 65535, .oi 50, .oi 56), (8, .oi 55, .oi 56, .oi 57), (15, .oi 60, .oi 50, .oi 61), (5, .oi 61, .oi 56, .oi 62), (6, .oi 57, .oi 62, .oi 63)]
section
variable {p : P} {k : Nat}
theorem rowsWV_ok (h : TxOk p.x) (hk : k < p.x.la) : ∀ r ∈ rowsWV, IbOk (ivP p k) r := by
  have h1 := h.a7; have h2 := wd_k hk; have h4 := h.t2
  have h3 : p.x.t1 = p.x.tot + wd p.x.la := rfl
  exact rLt (rGe (rQuo (rRem (rMul (rMul (rAdd (rLt (rGe (rSub (rAdd (rAdd ibNil)))))))))))
theorem rowsMV_ok : ∀ r ∈ rowsMV, IbOk (ivP p k) r := rShl (W := BitVec.ofNat 64 65535) (rAndNot (rShl (rAnd (rOr ibNil))))
theorem icWV_ok (h : TxOk p.x) : ∀ r ∈ ([(.i64, .oi 53, .oi 59), (.u64, .oi 59, .oi 60)] : List (IntKind × AV × AV)), IcOk' (ivP p k) r := by
  have h1 := h.hA k
  exact rConv (h := wrap64 (by omega) (by omega)) (rConv (h := u64OfInt _) icNil)
end
noncomputable abbrev RWV (p : P) (k : Nat) (h : TxOk p.x) (hk : k < p.x.la) : Rw (ivP p k) (vvP p k) (vkP p k) (fgP p) (txP p k) where
  vvp := vvPp p k
  ib := rowsWV ++ rowsMV
  ibok := catR (rowsWV_ok h hk) rowsMV_ok
  ic := [(.i64, .oi 53, .oi 59), (.u64, .oi 59, .oi 60)]
  icok := icWV_ok h
  vl := [⟨10, 47, 1, 0, [.oi 55]⟩, ⟨5, 40, 1, 0, [.oi 53]⟩]
  vlok := by
    have h2 := wd_k hk
    have h3 : p.x.t1 = p.x.tot + wd p.x.la := rfl
    as_aux_lemma => exact lN (lN allNil)
  vs := [⟨10, 47, 1, 0, [.oi 63], 11⟩]
  vsok := by
    have h2 := wd_k hk
    have h3 : p.x.t1 = p.x.tot + wd p.x.la := rfl
    as_aux_lemma => exact sN (q := p.x.tot + 3 + k / 4) (e' := fun m => wI (p.x.w (k + 1) m)) allNil (hy := congrArg (fun z => some (IntKind.u64, wI z)) (w_eq p.x k).symm) (hw := fun m _ hm => congrArg wI (w_ne p.x k m hm))
noncomputable def cvWV (k : Nat) : Cv := ⟨30000, 30004, ofPairs (rlV 30001 30002 30003), ipLV k⟩
theorem hwV : ∀ p k h hk, runTo (Pt (RWV p k h hk)) Tryz.prog Hand.none 3000 Tryz.f9.ntmps tL (frOf fsLV) (hOf 30004 (bsV 10 30001 30002 30003)) .normal (cvWV 41) (vpTV 30001 11 10 30002 30003) fsLV (bsV 10 30001 30002 30003) = true := fun p k h hk => by as_aux_lemma => kernel_rfl
abbrev RYV (p : P) (k : Nat) (hk : ¬ k < p.x.la) : Rw (ivP p k) (vvP p k) (vkP p k) (fgP p) (txP p k) where
  vvp := vvPp p k
  ib := [(11, .oi 40, .oi 0, .bool false)]
  ibok := by as_aux_lemma => exact rLt ibNil
theorem hyV : ∀ p k hk, runTo (Pt (RYV p k hk)) Tryz.prog Hand.none 3000 Tryz.f9.ntmps tL (frOf fsLV) (hOf 30004 (bsV 10 30001 30002 30003)) (.exit 0) (cvWV 40) (vpTV 30001 10 10 30002 30003) fsLV (bsV 10 30001 30002 30003) = true := fun p k hk => by as_aux_lemma => kernel_rfl
noncomputable def postV (N s : Nat) (a b c : Nat) : BS := (Nat.add N 1, a, .vec 3) :: (Nat.add N 2, b, .vec 4) :: (9899, 9899, hp (Nat.add N 1) 3 (Nat.add N 2) 7) :: (9898, 9898, mp) :: (13316, 13316, shp) :: []
noncomputable abbrev ipZV : IP := [(.oi 0, 0), (.oi 1, 1), (.oi 2, 2), (.oi 3, 3), (.oi 4, 4), (.oi 7, 7)]
noncomputable abbrev rlZV (N s : Nat) (a b c : Nat) : List (Nat × Nat) := [(Nat.add N 1, a), (Nat.add N 2, b)]
noncomputable def cvZV (N s : Nat) (a b c : Nat) : Cv := ⟨N, Nat.add N 40, ofPairs (rlZV N s a b c), ipZV⟩
def HZV (N s : Nat) : Prop := ∀ p k, runTo (T0 p k) Tryz.prog Hand.none 3000 Tryz.f9.ntmps (restn 4 tC) (frOf fsLV) (hOf 30004 (bsV 10 30001 30002 30003)) .ret (cvZV N s 30001 30002 30003) [(30001, .vec 10, 3), (30002, .vec 4, 4)] [(4, .oi 4)] (postV N s 30001 30002 30003) = true
def SWV (p : P) (k : Nat) (B : Kp) (w0 : World) (μ : M) (a : Act) (w : World) : Prop := St (T0 p k) B w0 μ Tryz.f9.ntmps (frOf fsLV) (hOf 30004 (bsV 10 30001 30002 30003)) a w
section
variable {p : P} {k : Nat} {B : Kp} {w0 : World} {μ : M} {a : Act} {w : World}
theorem vpSV {k k' : Nat} {T T' : Tab} {C : Cv} {x v v' : Nat} {e e' : Nat → Int} (y : Nat) (z : Nat) (h1 : T.vv = vvP p k := by exact rfl) (h2 : T'.vv = vvP p k' := by exact rfl) (h3 : T.vk = vkP p k := by exact rfl) (h4 : T'.vk = vkP p k' := by exact rfl) (g1 : T.vv v = numV .u64 p.x.t1 e := by exact rfl) (g2 : T'.vv v' = numV .u64 p.x.t1 e' := by exact rfl) (g3 : T.vk v = p.x.t1 := by exact rfl) (g4 : T'.vk v' = p.x.t1 := by exact rfl) (he : ∀ m, m < p.x.t1 → e' m = e m := by exact fun _ _ => rfl) : VpOk T T' C (vpTV x v v' y z) :=
  vpNum (K := .u64) (n := p.x.t1) (e := e) (e' := e') (vpNum (K := .i64) (n := p.x.cnt + 1) (e := p.x.S1) (e' := p.x.S1) (vpNum (K := .u16) (n := p.x.la) (e := p.x.A) (e' := p.x.A) vpNil (by rw [h1]; rfl) (by rw [h2]; rfl) (by rw [h3]; rfl) (by rw [h4]; rfl) (fun _ _ => rfl)) (by rw [h1]; rfl) (by rw [h2]; rfl) (by rw [h3]; rfl) (by rw [h4]; rfl) (fun _ _ => rfl)) g1 g2 g3 g4 he
theorem wRoundV (h : TxOk p.x) (hb : Base B μ 30000) (hk : k < p.x.la) (s : SWV p k B w0 μ a w) : tL.wp Tryz.prog (fun e a' w' => e = .normal ∧ SWV p (k + 1) B w0 μ a' w') a w :=
  runTo_sound (T := Pt (RWV p k h hk)) (T' := T0 p (k + 1)) mixed hNo (C := cvWV 41) (ex := .normal) hb (show 30000 ≤ 30004 by decide) (rl := rlV 30001 30002 30003) rfl (by kernel_rfl) ((ipE (ipE (ipE (ipE (ipE (ipE (ipE (ipNil))))))))) (vpSV (p := p) (k := k) (k' := k + 1) (e := fun m => wI (p.x.w (k + 1) m)) (e' := fun m => wI (p.x.w (k + 1) m)) 30002 30003) (glL (p := p)) (hwV p k h hk) (St.same (Pt.same _ _) s)
theorem wExitV (hb : Base B μ 30000) (hk : ¬ k < p.x.la) (s : SWV p k B w0 μ a w) : tL.wp Tryz.prog (fun e a' w' => e = .exit 0 ∧ SWV p k B w0 μ a' w') a w :=
  runTo_sound (T := Pt (RYV p k hk)) (T' := T0 p k) mixed hNo (C := cvWV 40) (ex := .exit 0) hb (show 30000 ≤ 30004 by decide) (rl := rlV 30001 30002 30003) rfl (by kernel_rfl) ((ipE (ipE (ipE (ipE (ipE (ipE (ipE (ipNil))))))))) (vpSV (p := p) (k := k) (k' := k) (e := fun m => wI (p.x.w k m)) (e' := fun m => wI (p.x.w k m)) 30002 30003) (glL (p := p)) (hyV p k hk) (St.same (Pt.same _ _) s)
theorem wRoundsV (h : TxOk p.x) (hb : Base B μ 30000) : ∀ (j k : Nat) (a : Act) (w : World), k + j = p.x.la + 1 → k ≤ p.x.la → SWV p k B w0 μ a w → Code.rounds Tryz.prog tL (fun e a w => e = .exit 0 ∧ SWV p p.x.la B w0 μ a w) j a w
  | 0, k, a, w, h1, h2, s => by omega
  | j + 1, k, a, w, h1, h2, s => by
    by_cases hk : k < p.x.la
    · refine rounds_of (wp_mono (wRoundV h hb hk s) ?_)
      rintro e a' w' ⟨rfl, s'⟩
      exact wRoundsV h hb j (k + 1) a' w' (by omega) (by omega) s'
    · have hkL : k = p.x.la := by omega
      refine rounds_of (wp_mono (wExitV hb hk s) ?_)
      rintro e a' w' ⟨rfl, s'⟩
      rw [hkL] at s'
      exact ⟨rfl, s'⟩
end
noncomputable def txIV (N s : Nat) : In := ⟨9, [.ptr 9899 0, (.ov s 0 1)], N, (preV s), .oi 4, Nat.add N 40, bsOf (postV N s 30001 30002 30003)⟩
theorem txIV_ok {p : P} {N s : Nat} (h : TxOk p.x) (ga : HAV N s) (gz : HZV N s) (hN : N ≤ 30000) (l : okLim (txIV N s).bs' = true) (hl : hasAll (hOf (Nat.add N 40) (postV N s 30001 30002 30003)) (txIV N s).bs' = true) (rk1 : okRn (cvAV N (Nat.add N 2) s) (rlV N (Nat.add N 2) s) = true) (rk2 : okRn (cvZV N s 30001 30002 30003) (rlZV N s 30001 30002 30003) = true)
    (hr : results? Tryz.prog Tryz.f9 (frOf [(4, .oi 4)]) (hOf (Nat.add N 40) (postV N s 30001 30002 30003)) = some (.oi 4)) : @InOk Tryz.prog (txIV N s) (TP p) := by
  letI : Tab := TP p
  refine ⟨l, hOf (Nat.add N 40) (postV N s 30001 30002 30003), ?_, hOf_next'.symm, hl⟩
  refine callOk_of (fn := Tryz.f9) Tryz.func9 tC_eq (show 2 ≤ Tryz.f9.ntmps by decide +kernel) (show 2 < limit by decide) fun B w0 μ a0 w hb s0 => ?_
  have hb : Base B μ N := by
    have h := hb
    rw [show (hIn (txIV N s).N (txIV N s).bs).next = N from hIn_next] at h
    exact h
  have hbU : Base B μ 30000 := baseUp hb hN
  refine firstTo_sound (T := Pt (RTV p h)) (T' := TP p) (n := 3) mixed (K := KN) KN_ok (C := cvAV N (Nat.add N 2) s) (rl := rlV N (Nat.add N 2) s) (fs := fsAV) (bs := bsV 27 N (Nat.add N 2) s)
    hbU (show 30000 ≤ 30004 by decide) rfl rk1 ((ipE (ipE (ipE (ipE (ipE (ipE (ipE (ipNil))))))))) (vpSV (p := p) (k := 0) (k' := 0) (e := fun m => wI (p.x.WY m)) (e' := fun m => wI (p.x.WY m)) (Nat.add N 2) s) (glL (p := p)) (ga p h) (St.same (Pt.same _ _) s0) fun a1 w1 s1 => ?_
  have s1 : St (TP p) B w0 μ Tryz.f9.ntmps (frOf fsAV) (hOf 30004 (bsV 27 30001 30002 30003)) a1 w1 := s1
  rw [t3_eq]
  refine wp_seq (wp_seq (wp_mono (runTo_sound (T := Pt (RTV p h)) (T' := TP p) mixed (K := KN) KN_ok (C := cvAV 30001 30002 30003) (ex := .normal) hbU (show 30000 ≤ 30004 by decide) (rl := rlV 30001 30002 30003) rfl (by kernel_rfl) ((ipE (ipE (ipE (ipE (ipE (ipE (ipE (ipNil))))))))) (vpSV (p := p) (k := 0) (k' := 0) (e := fun m => wI (p.x.WY m)) (e' := fun m => wI (p.x.WY m)) 30002 30003) (glL (p := p)) (hrV p h) (St.same (Pt.same _ _) s1)) ?_))
  rintro e a2 w2 ⟨rfl, s2⟩
  show (Code.cond (.tmp 18) tX .skip).wp _ _ _ _
  refine wp_cond (t := true) (St.evB s2 (by kernel_rfl)) ?_
  show tX.wp _ _ _ _
  refine firstTo_sound (T := Pt (RTV p h)) (T' := TP p) (n := 2) mixed (K := KN) KN_ok (C := cvIV) (rl := rlV 30001 30002 30003) (fs := fsLV) (bs := bsV 10 30001 30002 30003)
    hbU (show 30000 ≤ 30004 by decide) rfl (by kernel_rfl) ((ipE (ipE (ipE (ipE (ipE (ipE (ipK' ipNil (e := rfl))))))))) (vpSV (p := p) (k := 0) (k' := 0) (e := fun m => wI (p.x.w 0 m)) (e' := fun m => wI (p.x.w 0 m)) 30002 30003) (glL (p := p)) (hiV p h) (St.same (Pt.same _ _) s2) fun a3 w3 s3 => ?_
  rw [tX_eq]
  refine wp_block (wp_mono (wp_loop_rounds (Q := fun e a w => e = .exit 0 ∧ SWV p p.x.la B w0 μ a w) (p.x.la + 1) (wRoundsV h hbU (p.x.la + 1) 0 a3 w3 (by omega) (Nat.zero_le _) s3)) ?_)
  rintro e a4 w4 ⟨rfl, s4⟩
  show (restn 4 tC).wp _ _ _ _
  refine wp_mono (runTo_sound (T := T0 p p.x.la) (T' := TP p) mixed hNo (C := cvZV N s 30001 30002 30003) (ex := .ret) hb (Nat.le_add_right N 40) (rl := rlZV N s 30001 30002 30003) rfl rk2 ((ipE (ipE (ipE (ipE (ipE (ipE (ipNil)))))))) (vpNum (n := p.x.t1) (e := fun m => wI (p.x.w p.x.la m)) (e' := fun m => wI (p.x.w p.x.la m)) (vpNum (n := p.x.cnt + 1) (e := p.x.S1) (e' := p.x.S1) vpNil)) (glL (p := p)) (gz p p.x.la) s4) ?_
  rintro e a5 w5 ⟨rfl, s5⟩
  exact St.done (τ := TP p) (e := .ret) (.inr rfl) hr s5
end Go.Proofs.YtkkaifeiopjjdaaGreatDoor.bd
