/-
  Chars as UTF-8: the program's own, a contract.
-/
import Derived.Test.YtkkaifeiopjjdaaGreatDoorNPH
set_option linter.unusedVariables false
set_option linter.unusedSimpArgs false
set_option linter.unusedSectionVars false
set_option maxRecDepth 1000000
set_option maxHeartbeats 0
namespace Go.Proofs.YtkkaifeiopjjdaaGreatDoor.np
open Go.X Go.RowKit Go.Proofs
theorem vpRow {T T' : Tab} {C : Cv} {l : VP} {x i n : Nat} {K : IntKind} {r : List AV} {f : Nat → Int} (k : VpOk T T' C l) (hr : r.length = n) (hl : n < 1000000) (h2 : T'.vv i = numV K n f) (h4 : T'.vk i = n) (h : ∀ m, m < n → ∃ v, r[m]? = some v ∧ denI T.iv v = some (K, f m)) : VpOk T T' C ((x, rowOf r true, i) :: l) := by
  refine vpCons ⟨rfl, fun μ p w hh => ?_⟩ k
  obtain ⟨arr, el, fz, g1, g2, g3, g4, g5, g6⟩ := hh
  refine ⟨arr, el, fz, g1, g2, g3, by dsimp only; rw [h4]; omega, fun m a ha => ?_⟩
  dsimp only at ha
  rw [h2] at ha
  obtain ⟨hm, rfl⟩ := numV_some ha
  obtain ⟨b, b1, b2⟩ := h m hm
  obtain ⟨v, v1, v2⟩ := g6 m b (by omega) (by rw [@cellOf_row T _ _ (by rw [hr]; exact hl)]; exact b1)
  refine ⟨v, v1, ?_⟩
  cases b <;> simp [denI] at b2
  · obtain ⟨rfl, rfl⟩ := b2; simpa [vrel] using v2
  · simp only [vrel] at v2 ⊢; rw [v2, b2]
theorem glO {p : Pm} {T T' : Tab} {B : Kp} {w0 : World} (h1 : T.fb = (fgO p).fb := by exact rfl) (h2 : T.fv = (fgO p).fv := by exact rfl) (h3 : T'.fb = (fgO p).fb := by exact rfl) (h4 : T'.fv = (fgO p).fv := by exact rfl) (h5 : T'.gv = fun _ _ => none := by exact rfl) : @Gl T B w0 → @Gl T' B w0 :=
  glF h5 (h1.trans h3.symm) (h2.trans h4.symm) fun i m a h => by
    rw [h4] at h
    match i, h with
    | 0, h => cases h
    | 1, h => obtain ⟨_, e⟩ := numV_some h; exact ⟨_, _, e⟩
    | (i + 2), h => cases h
theorem glPO {p : Pm} {e : Oe} {B : Kp} {w0 : World} (g : @Gl (TP p) B w0) : @Gl (TO p e) B w0 := by
  refine ⟨fun g' o a h => (by cases h), fun i m a h => ?_⟩
  match i, h with
  | 0, h => cases h
  | 1, h =>
    obtain ⟨k1, v, k2, k3⟩ := g.2 1 m a h
    exact ⟨k1, v, k2, by obtain ⟨_, rfl⟩ := numV_some (show numV .u16 p.la p.A m = some a from h); simpa only [vrel] using k3⟩
  | i + 2, h => cases h
theorem St.gl {τ : Tab} {B : Kp} {w0 : World} {μ0 : M} {nt : Nat} {fr : Fr} {h : H} {a : Act} {w : World} (s : St τ B w0 μ0 nt fr h a w) : @Gl τ B w0 := by
  obtain ⟨μ, hx, f, r⟩ := s
  exact r.below.glb
/-- the bytes of a text's chars, and how many there are -/
def fin (p : Pm) : List Int := outL p.A p.la (p.la + 1) 0 []
structure Bt (p : Pm) : Prop where
  lb : p.lb = (fin p).length
  E : p.E = bt (fin p)
noncomputable def co : Code := codeOf Tryz.f115
theorem co_eq : Tryz.f115.body = some co := by kernel_rfl
noncomputable def io : Code := hd (hd (restn 2 co))
noncomputable def lo : Code := lpIn (tl (hd (restn 2 co)))
theorem c2o_eq : restn 2 co = .seq (.seq io (.block 0 (.loop lo))) (restn 3 co) := by kernel_rfl
noncomputable abbrev sbo : BS := [(20129, 20129, .vec 0)]
noncomputable def fso (z : Bool) : List (Nat × AV) := [(0, .ov 20129 2 1), (3, Bool.rec (.ov 30001 3 1) .nils z), (4, .oi 0)]
noncomputable def bso (z : Bool) (a : Nat) : BS := sbo ++ (Bool.rec [(30001, a, .vec 1)] [] z : BS)
structure Fqo (p : Pm) (e : Oe) : Prop where
  n : e.n = p.la
  f : e.f = p.A
noncomputable abbrev Ro0 (p : Pm) (e : Oe) (q : Fqo p e) (o : OF e) (hk : e.i < e.n) (h : OK e 0) : Rw (ivO e) (vvO e) (vkO e) (fgO p) (txO e) where
  vvp := vvOp e
  ib := ibo0
  ibok := ibo0_ok o hk h
  ic := ico0
  icok := ico0_ok o hk h
  va := [⟨1, 3, 1, sr0, 2, 4⟩]
  vaok := aLO o hk (src0 h)
  vl := [⟨0, 0, 1, 0, [.oi 5]⟩]
  vlok := by
    as_aux_lemma => exact lN (allNil)
noncomputable abbrev cvo0n : Cv := ⟨30000, 30002, ofPairs [(30001, 30003)], [(.oi 1, 0), (.oi 2, 2), (.oi 4, 3)]⟩
theorem go0n : ∀ p e q o hk h, runTo (Ro0 p e q o hk h).T Tryz.prog Hand.none 3000 Tryz.f115.ntmps lo (frOf (fso false)) (hOf 30002 (bso false 30001)) .normal cvo0n [(20129, .vec 0, 0), (30003, .vec 2, 1)] (fso false) (bso false 30003) = true := fun p e q o hk h => by as_aux_lemma => kernel_rfl
noncomputable abbrev cvo0z : Cv := ⟨30000, 30002, ofPairs [(30001, 30003)], [(.oi 1, 0), (.oi 2, 2), (.int .i64 1, 3)]⟩
theorem go0z : ∀ p e q o hk h, runTo (Ro0 p e q o hk h).T Tryz.prog Hand.none 3000 Tryz.f115.ntmps lo (frOf (fso true)) (hOf 30002 (bso true 30001)) .normal cvo0z [(20129, .vec 0, 0), (30003, rowOf sr0 true, 1)] (fso false) (bso false 30003) = true := fun p e q o hk h => by as_aux_lemma => kernel_rfl
noncomputable abbrev Ro1 (p : Pm) (e : Oe) (q : Fqo p e) (o : OF e) (hk : e.i < e.n) (h : OK e 1) : Rw (ivO e) (vvO e) (vkO e) (fgO p) (txO e) where
  vvp := vvOp e
  ib := ibo1
  ibok := ibo1_ok o hk h
  ic := ico1
  icok := ico1_ok o hk h
  va := [⟨1, 3, 1, sr1, 2, 4⟩]
  vaok := aLO o hk (src1 h)
  vl := [⟨0, 0, 1, 0, [.oi 5]⟩]
  vlok := by
    as_aux_lemma => exact lN (allNil)
noncomputable abbrev cvo1n : Cv := ⟨30000, 30002, ofPairs [(30001, 30003)], [(.oi 1, 0), (.oi 2, 2), (.oi 4, 3)]⟩
theorem go1n : ∀ p e q o hk h, runTo (Ro1 p e q o hk h).T Tryz.prog Hand.none 3000 Tryz.f115.ntmps lo (frOf (fso false)) (hOf 30002 (bso false 30001)) .normal cvo1n [(20129, .vec 0, 0), (30003, .vec 2, 1)] (fso false) (bso false 30003) = true := fun p e q o hk h => by as_aux_lemma => kernel_rfl
noncomputable abbrev cvo1z : Cv := ⟨30000, 30002, ofPairs [(30001, 30003)], [(.oi 1, 0), (.oi 2, 2), (.int .i64 2, 3)]⟩
theorem go1z : ∀ p e q o hk h, runTo (Ro1 p e q o hk h).T Tryz.prog Hand.none 3000 Tryz.f115.ntmps lo (frOf (fso true)) (hOf 30002 (bso true 30001)) .normal cvo1z [(20129, .vec 0, 0), (30003, rowOf sr1 true, 1)] (fso false) (bso false 30003) = true := fun p e q o hk h => by as_aux_lemma => kernel_rfl
noncomputable abbrev Ro2 (p : Pm) (e : Oe) (q : Fqo p e) (o : OF e) (hk : e.i < e.n) (h : OK e 2) : Rw (ivO e) (vvO e) (vkO e) (fgO p) (txO e) where
  vvp := vvOp e
  ib := ibo2
  ibok := ibo2_ok o hk h
  ic := ico2
  icok := ico2_ok o hk h
  va := [⟨1, 3, 1, sr2, 2, 4⟩]
  vaok := aLO o hk (src2 h)
  vl := [⟨0, 0, 1, 0, [.oi 5]⟩]
  vlok := by
    as_aux_lemma => exact lN (allNil)
noncomputable abbrev cvo2n : Cv := ⟨30000, 30002, ofPairs [(30001, 30003)], [(.oi 1, 0), (.oi 2, 2), (.oi 4, 3)]⟩
theorem go2n : ∀ p e q o hk h, runTo (Ro2 p e q o hk h).T Tryz.prog Hand.none 3000 Tryz.f115.ntmps lo (frOf (fso false)) (hOf 30002 (bso false 30001)) .normal cvo2n [(20129, .vec 0, 0), (30003, .vec 2, 1)] (fso false) (bso false 30003) = true := fun p e q o hk h => by as_aux_lemma => kernel_rfl
noncomputable abbrev cvo2z : Cv := ⟨30000, 30002, ofPairs [(30001, 30003)], [(.oi 1, 0), (.oi 2, 2), (.int .i64 3, 3)]⟩
theorem go2z : ∀ p e q o hk h, runTo (Ro2 p e q o hk h).T Tryz.prog Hand.none 3000 Tryz.f115.ntmps lo (frOf (fso true)) (hOf 30002 (bso true 30001)) .normal cvo2z [(20129, .vec 0, 0), (30003, rowOf sr2 true, 1)] (fso false) (bso false 30003) = true := fun p e q o hk h => by as_aux_lemma => kernel_rfl
noncomputable abbrev Ro3 (p : Pm) (e : Oe) (q : Fqo p e) (o : OF e) (hk : e.i < e.n) (h : OK e 3) : Rw (ivO e) (vvO e) (vkO e) (fgO p) (txO e) where
  vvp := vvOp e
  ib := ibo3
  ibok := ibo3_ok o hk h
  ic := ico3
  icok := ico3_ok o hk h
  va := [⟨1, 3, 1, sr3, 2, 4⟩]
  vaok := aLO o hk (src3 h)
  vl := [⟨0, 0, 1, 0, [.oi 5]⟩]
  vlok := by
    as_aux_lemma => exact lN (allNil)
noncomputable abbrev cvo3n : Cv := ⟨30000, 30002, ofPairs [(30001, 30003)], [(.oi 1, 0), (.oi 2, 2), (.oi 4, 3)]⟩
theorem go3n : ∀ p e q o hk h, runTo (Ro3 p e q o hk h).T Tryz.prog Hand.none 3000 Tryz.f115.ntmps lo (frOf (fso false)) (hOf 30002 (bso false 30001)) .normal cvo3n [(20129, .vec 0, 0), (30003, .vec 2, 1)] (fso false) (bso false 30003) = true := fun p e q o hk h => by as_aux_lemma => kernel_rfl
noncomputable abbrev cvo3z : Cv := ⟨30000, 30002, ofPairs [(30001, 30003)], [(.oi 1, 0), (.oi 2, 2), (.int .i64 3, 3)]⟩
theorem go3z : ∀ p e q o hk h, runTo (Ro3 p e q o hk h).T Tryz.prog Hand.none 3000 Tryz.f115.ntmps lo (frOf (fso true)) (hOf 30002 (bso true 30001)) .normal cvo3z [(20129, .vec 0, 0), (30003, rowOf sr3 true, 1)] (fso false) (bso false 30003) = true := fun p e q o hk h => by as_aux_lemma => kernel_rfl
noncomputable abbrev Ro4 (p : Pm) (e : Oe) (q : Fqo p e) (o : OF e) (hk : e.i < e.n) (h : OK e 4) : Rw (ivO e) (vvO e) (vkO e) (fgO p) (txO e) where
  vvp := vvOp e
  ib := ibo4
  ibok := ibo4_ok o hk h
  ic := ico4
  icok := ico4_ok o hk h
  va := [⟨1, 3, 1, sr4, 2, 4⟩]
  vaok := aLO o hk (src4 h)
  vl := [⟨0, 0, 1, 0, [.oi 5]⟩]
  vlok := by
    as_aux_lemma => exact lN (allNil)
noncomputable abbrev cvo4n : Cv := ⟨30000, 30002, ofPairs [(30001, 30003)], [(.oi 1, 0), (.oi 2, 2), (.oi 4, 3)]⟩
theorem go4n : ∀ p e q o hk h, runTo (Ro4 p e q o hk h).T Tryz.prog Hand.none 3000 Tryz.f115.ntmps lo (frOf (fso false)) (hOf 30002 (bso false 30001)) .normal cvo4n [(20129, .vec 0, 0), (30003, .vec 2, 1)] (fso false) (bso false 30003) = true := fun p e q o hk h => by as_aux_lemma => kernel_rfl
noncomputable abbrev cvo4z : Cv := ⟨30000, 30002, ofPairs [(30001, 30003)], [(.oi 1, 0), (.oi 2, 2), (.int .i64 1, 3)]⟩
theorem go4z : ∀ p e q o hk h, runTo (Ro4 p e q o hk h).T Tryz.prog Hand.none 3000 Tryz.f115.ntmps lo (frOf (fso true)) (hOf 30002 (bso true 30001)) .normal cvo4z [(20129, .vec 0, 0), (30003, rowOf sr4 true, 1)] (fso false) (bso false 30003) = true := fun p e q o hk h => by as_aux_lemma => kernel_rfl
noncomputable abbrev Ro5 (p : Pm) (e : Oe) (q : Fqo p e) (o : OF e) (hk : e.i < e.n) (h : OK e 5) : Rw (ivO e) (vvO e) (vkO e) (fgO p) (txO e) where
  vvp := vvOp e
  ib := ibo5
  ibok := ibo5_ok o hk h
  ic := ico5
  icok := ico5_ok o hk h
  va := [⟨1, 3, 1, sr5, 2, 4⟩]
  vaok := aLO o hk (src5 h)
  vl := [⟨0, 0, 1, 0, [.oi 5]⟩]
  vlok := by
    as_aux_lemma => exact lN (allNil)
noncomputable abbrev cvo5n : Cv := ⟨30000, 30002, ofPairs [(30001, 30003)], [(.oi 1, 0), (.oi 2, 2), (.oi 4, 3)]⟩
theorem go5n : ∀ p e q o hk h, runTo (Ro5 p e q o hk h).T Tryz.prog Hand.none 3000 Tryz.f115.ntmps lo (frOf (fso false)) (hOf 30002 (bso false 30001)) .normal cvo5n [(20129, .vec 0, 0), (30003, .vec 2, 1)] (fso false) (bso false 30003) = true := fun p e q o hk h => by as_aux_lemma => kernel_rfl
noncomputable abbrev cvo5z : Cv := ⟨30000, 30002, ofPairs [(30001, 30003)], [(.oi 1, 0), (.oi 2, 2), (.int .i64 1, 3)]⟩
theorem go5z : ∀ p e q o hk h, runTo (Ro5 p e q o hk h).T Tryz.prog Hand.none 3000 Tryz.f115.ntmps lo (frOf (fso true)) (hOf 30002 (bso true 30001)) .normal cvo5z [(20129, .vec 0, 0), (30003, rowOf sr5 true, 1)] (fso false) (bso false 30003) = true := fun p e q o hk h => by as_aux_lemma => kernel_rfl
noncomputable abbrev Ro6 (p : Pm) (e : Oe) (q : Fqo p e) (o : OF e) (hk : e.i < e.n) (h : OK e 6) : Rw (ivO e) (vvO e) (vkO e) (fgO p) (txO e) where
  vvp := vvOp e
  ib := ibo6
  ibok := ibo6_ok o hk h
  ic := ico6
  icok := ico6_ok o hk h
  va := [⟨1, 3, 1, sr6, 2, 4⟩]
  vaok := aLO o hk (src6 h)
  vl := [⟨0, 0, 1, 0, [.oi 5]⟩, ⟨0, 1, 1, 0, [.oi 6]⟩]
  vlok := by
    have h2 : e.i + 1 < e.n := h.2.2.1
    as_aux_lemma => exact lN (lN allNil)
noncomputable abbrev cvo6n : Cv := ⟨30000, 30002, ofPairs [(30001, 30003)], [(.oi 1, 0), (.oi 2, 2), (.oi 4, 3)]⟩
theorem go6n : ∀ p e q o hk h, runTo (Ro6 p e q o hk h).T Tryz.prog Hand.none 3000 Tryz.f115.ntmps lo (frOf (fso false)) (hOf 30002 (bso false 30001)) .normal cvo6n [(20129, .vec 0, 0), (30003, .vec 2, 1)] (fso false) (bso false 30003) = true := fun p e q o hk h => by as_aux_lemma => kernel_rfl
noncomputable abbrev cvo6z : Cv := ⟨30000, 30002, ofPairs [(30001, 30003)], [(.oi 1, 0), (.oi 2, 2), (.int .i64 1, 3)]⟩
theorem go6z : ∀ p e q o hk h, runTo (Ro6 p e q o hk h).T Tryz.prog Hand.none 3000 Tryz.f115.ntmps lo (frOf (fso true)) (hOf 30002 (bso true 30001)) .normal cvo6z [(20129, .vec 0, 0), (30003, rowOf sr6 true, 1)] (fso false) (bso false 30003) = true := fun p e q o hk h => by as_aux_lemma => kernel_rfl
noncomputable abbrev Ro7 (p : Pm) (e : Oe) (q : Fqo p e) (o : OF e) (hk : e.i < e.n) (h : OK e 7) : Rw (ivO e) (vvO e) (vkO e) (fgO p) (txO e) where
  vvp := vvOp e
  ib := ibo7
  ibok := ibo7_ok o hk h
  ic := ico7
  icok := ico7_ok o hk h
  va := [⟨1, 3, 1, sr7, 2, 4⟩]
  vaok := aLO o hk (src7 h)
  vl := [⟨0, 0, 1, 0, [.oi 5]⟩, ⟨0, 1, 1, 0, [.oi 6]⟩]
  vlok := by
    have h2 : e.i + 1 < e.n := h.2.2.1
    as_aux_lemma => exact lN (lN allNil)
noncomputable abbrev cvo7n : Cv := ⟨30000, 30002, ofPairs [(30001, 30003)], [(.oi 47, 0), (.oi 2, 2), (.oi 4, 3)]⟩
theorem go7n : ∀ p e q o hk h, runTo (Ro7 p e q o hk h).T Tryz.prog Hand.none 3000 Tryz.f115.ntmps lo (frOf (fso false)) (hOf 30002 (bso false 30001)) .normal cvo7n [(20129, .vec 0, 0), (30003, .vec 2, 1)] (fso false) (bso false 30003) = true := fun p e q o hk h => by as_aux_lemma => kernel_rfl
noncomputable abbrev cvo7z : Cv := ⟨30000, 30002, ofPairs [(30001, 30003)], [(.oi 47, 0), (.oi 2, 2), (.int .i64 4, 3)]⟩
theorem go7z : ∀ p e q o hk h, runTo (Ro7 p e q o hk h).T Tryz.prog Hand.none 3000 Tryz.f115.ntmps lo (frOf (fso true)) (hOf 30002 (bso true 30001)) .normal cvo7z [(20129, .vec 0, 0), (30003, rowOf sr7 true, 1)] (fso false) (bso false 30003) = true := fun p e q o hk h => by as_aux_lemma => kernel_rfl
noncomputable abbrev Ro8 (p : Pm) (e : Oe) (q : Fqo p e) (o : OF e) (hk : e.i < e.n) (h : OK e 8) : Rw (ivO e) (vvO e) (vkO e) (fgO p) (txO e) where
  vvp := vvOp e
  ib := ibo8
  ibok := ibo8_ok o hk h
  ic := ico8
  icok := ico8_ok o hk h
  va := [⟨1, 3, 1, sr8, 2, 4⟩]
  vaok := aLO o hk (src8 h)
  vl := [⟨0, 0, 1, 0, [.oi 5]⟩, ⟨0, 1, 1, 0, [.oi 6]⟩]
  vlok := by
    have h2 : e.i + 1 < e.n := h.2.2.1
    as_aux_lemma => exact lN (lN allNil)
noncomputable abbrev cvo8n : Cv := ⟨30000, 30002, ofPairs [(30001, 30003)], [(.oi 1, 0), (.oi 2, 2), (.oi 4, 3)]⟩
theorem go8n : ∀ p e q o hk h, runTo (Ro8 p e q o hk h).T Tryz.prog Hand.none 3000 Tryz.f115.ntmps lo (frOf (fso false)) (hOf 30002 (bso false 30001)) .normal cvo8n [(20129, .vec 0, 0), (30003, .vec 2, 1)] (fso false) (bso false 30003) = true := fun p e q o hk h => by as_aux_lemma => kernel_rfl
noncomputable abbrev cvo8z : Cv := ⟨30000, 30002, ofPairs [(30001, 30003)], [(.oi 1, 0), (.oi 2, 2), (.int .i64 1, 3)]⟩
theorem go8z : ∀ p e q o hk h, runTo (Ro8 p e q o hk h).T Tryz.prog Hand.none 3000 Tryz.f115.ntmps lo (frOf (fso true)) (hOf 30002 (bso true 30001)) .normal cvo8z [(20129, .vec 0, 0), (30003, rowOf sr8 true, 1)] (fso false) (bso false 30003) = true := fun p e q o hk h => by as_aux_lemma => kernel_rfl
def So (p : Pm) (e : Oe) (z : Bool) (B : Kp) (w0 : World) (μ : M) (a : Act) (w : World) : Prop := St (TO p e) B w0 μ Tryz.f115.ntmps (frOf (fso z)) (hOf 30002 (bso z 30001)) a w
section
variable {p : Pm} {e : Oe} {B : Kp} {w0 : World} {μ : M} {a : Act} {w : World}
theorem rdo0n (hb : Base B μ 30000) (q : Fqo p e) (o : OF e) (hk : e.i < e.n) (h : OK e 0) (s : So p e false B w0 μ a w) : lo.wp Tryz.prog (fun x a' w' => x = .normal ∧ So p e.nx false B w0 μ a' w') a w :=
  runTo_sound (fs := fso false) (bs := bso false 30003) (T := (Ro0 p e q o hk h).T) (T' := TO p e.nx) mixed hNo (C := cvo0n) (ex := .normal) hb (show 30000 ≤ 30002 by decide) (rl := [(30001, 30003)]) rfl (by rfl) (Go.X.ipZ (ipE (ipE ipNil)) (e := by show ((e.i + outS e.f e.n e.i : Nat) : Int) = ((e.i + 1 : Nat) : Int); rw [st0 h])) (vpNum (n := e.n) (e := e.f) (e' := e.f) (vpNum (n := (e.l ++ e.b).length) (e := bt (e.l ++ e.b)) (e' := bt (e.l ++ e.b)) vpNil)) (glO (p := p)) (go0n p e q o hk h) (St.same (Rw.same _ _) s)
theorem rdo0z (hb : Base B μ 30000) (q : Fqo p e) (o : OF e) (hk : e.i < e.n) (h : OK e 0) (h0 : e.l = []) (s : So p e true B w0 μ a w) : lo.wp Tryz.prog (fun x a' w' => x = .normal ∧ So p e.nx false B w0 μ a' w') a w :=
  runTo_sound (fs := fso false) (bs := bso false 30003) (T := (Ro0 p e q o hk h).T) (T' := TO p e.nx) mixed hNo (C := cvo0z) (ex := .normal) hb (show 30000 ≤ 30002 by decide) (rl := [(30001, 30003)]) rfl (by rfl) (Go.X.ipZ (ipE (ipK' ipNil (e := by show ((e.l ++ e.b).length : Int) = 1; rw [h0, b0 h]; rfl))) (e := by show ((e.i + outS e.f e.n e.i : Nat) : Int) = ((e.i + 1 : Nat) : Int); rw [st0 h])) (vpNum (n := e.n) (e := e.f) (e' := e.f) (vpRow (n := (e.l ++ e.b).length) (K := .u8) (f := bt (e.l ++ e.b)) vpNil (by rw [h0, b0 h]; rfl) (by rw [h0, b0 h]; show (1 : Nat) < 1000000; decide) rfl rfl (fun m hm => by
    rw [h0, List.nil_append, ← (src0 h).len] at hm
    obtain ⟨v, v1, v2⟩ := (src0 h).at_ m hm
    refine ⟨v, v1, v2.trans ?_⟩
    rw [h0]; rfl))) (glO (p := p)) (go0z p e q o hk h) (St.same (Rw.same _ _) s)
theorem rdo1n (hb : Base B μ 30000) (q : Fqo p e) (o : OF e) (hk : e.i < e.n) (h : OK e 1) (s : So p e false B w0 μ a w) : lo.wp Tryz.prog (fun x a' w' => x = .normal ∧ So p e.nx false B w0 μ a' w') a w :=
  runTo_sound (fs := fso false) (bs := bso false 30003) (T := (Ro1 p e q o hk h).T) (T' := TO p e.nx) mixed hNo (C := cvo1n) (ex := .normal) hb (show 30000 ≤ 30002 by decide) (rl := [(30001, 30003)]) rfl (by rfl) (Go.X.ipZ (ipE (ipE ipNil)) (e := by show ((e.i + outS e.f e.n e.i : Nat) : Int) = ((e.i + 1 : Nat) : Int); rw [st1 h])) (vpNum (n := e.n) (e := e.f) (e' := e.f) (vpNum (n := (e.l ++ e.b).length) (e := bt (e.l ++ e.b)) (e' := bt (e.l ++ e.b)) vpNil)) (glO (p := p)) (go1n p e q o hk h) (St.same (Rw.same _ _) s)
theorem rdo1z (hb : Base B μ 30000) (q : Fqo p e) (o : OF e) (hk : e.i < e.n) (h : OK e 1) (h0 : e.l = []) (s : So p e true B w0 μ a w) : lo.wp Tryz.prog (fun x a' w' => x = .normal ∧ So p e.nx false B w0 μ a' w') a w :=
  runTo_sound (fs := fso false) (bs := bso false 30003) (T := (Ro1 p e q o hk h).T) (T' := TO p e.nx) mixed hNo (C := cvo1z) (ex := .normal) hb (show 30000 ≤ 30002 by decide) (rl := [(30001, 30003)]) rfl (by rfl) (Go.X.ipZ (ipE (ipK' ipNil (e := by show ((e.l ++ e.b).length : Int) = 2; rw [h0, b1 h]; rfl))) (e := by show ((e.i + outS e.f e.n e.i : Nat) : Int) = ((e.i + 1 : Nat) : Int); rw [st1 h])) (vpNum (n := e.n) (e := e.f) (e' := e.f) (vpRow (n := (e.l ++ e.b).length) (K := .u8) (f := bt (e.l ++ e.b)) vpNil (by rw [h0, b1 h]; rfl) (by rw [h0, b1 h]; show (2 : Nat) < 1000000; decide) rfl rfl (fun m hm => by
    rw [h0, List.nil_append, ← (src1 h).len] at hm
    obtain ⟨v, v1, v2⟩ := (src1 h).at_ m hm
    refine ⟨v, v1, v2.trans ?_⟩
    rw [h0]; rfl))) (glO (p := p)) (go1z p e q o hk h) (St.same (Rw.same _ _) s)
theorem rdo2n (hb : Base B μ 30000) (q : Fqo p e) (o : OF e) (hk : e.i < e.n) (h : OK e 2) (s : So p e false B w0 μ a w) : lo.wp Tryz.prog (fun x a' w' => x = .normal ∧ So p e.nx false B w0 μ a' w') a w :=
  runTo_sound (fs := fso false) (bs := bso false 30003) (T := (Ro2 p e q o hk h).T) (T' := TO p e.nx) mixed hNo (C := cvo2n) (ex := .normal) hb (show 30000 ≤ 30002 by decide) (rl := [(30001, 30003)]) rfl (by rfl) (Go.X.ipZ (ipE (ipE ipNil)) (e := by show ((e.i + outS e.f e.n e.i : Nat) : Int) = ((e.i + 1 : Nat) : Int); rw [st2 h])) (vpNum (n := e.n) (e := e.f) (e' := e.f) (vpNum (n := (e.l ++ e.b).length) (e := bt (e.l ++ e.b)) (e' := bt (e.l ++ e.b)) vpNil)) (glO (p := p)) (go2n p e q o hk h) (St.same (Rw.same _ _) s)
theorem rdo2z (hb : Base B μ 30000) (q : Fqo p e) (o : OF e) (hk : e.i < e.n) (h : OK e 2) (h0 : e.l = []) (s : So p e true B w0 μ a w) : lo.wp Tryz.prog (fun x a' w' => x = .normal ∧ So p e.nx false B w0 μ a' w') a w :=
  runTo_sound (fs := fso false) (bs := bso false 30003) (T := (Ro2 p e q o hk h).T) (T' := TO p e.nx) mixed hNo (C := cvo2z) (ex := .normal) hb (show 30000 ≤ 30002 by decide) (rl := [(30001, 30003)]) rfl (by rfl) (Go.X.ipZ (ipE (ipK' ipNil (e := by show ((e.l ++ e.b).length : Int) = 3; rw [h0, b2 h]; rfl))) (e := by show ((e.i + outS e.f e.n e.i : Nat) : Int) = ((e.i + 1 : Nat) : Int); rw [st2 h])) (vpNum (n := e.n) (e := e.f) (e' := e.f) (vpRow (n := (e.l ++ e.b).length) (K := .u8) (f := bt (e.l ++ e.b)) vpNil (by rw [h0, b2 h]; rfl) (by rw [h0, b2 h]; show (3 : Nat) < 1000000; decide) rfl rfl (fun m hm => by
    rw [h0, List.nil_append, ← (src2 h).len] at hm
    obtain ⟨v, v1, v2⟩ := (src2 h).at_ m hm
    refine ⟨v, v1, v2.trans ?_⟩
    rw [h0]; rfl))) (glO (p := p)) (go2z p e q o hk h) (St.same (Rw.same _ _) s)
theorem rdo3n (hb : Base B μ 30000) (q : Fqo p e) (o : OF e) (hk : e.i < e.n) (h : OK e 3) (s : So p e false B w0 μ a w) : lo.wp Tryz.prog (fun x a' w' => x = .normal ∧ So p e.nx false B w0 μ a' w') a w :=
  runTo_sound (fs := fso false) (bs := bso false 30003) (T := (Ro3 p e q o hk h).T) (T' := TO p e.nx) mixed hNo (C := cvo3n) (ex := .normal) hb (show 30000 ≤ 30002 by decide) (rl := [(30001, 30003)]) rfl (by rfl) (Go.X.ipZ (ipE (ipE ipNil)) (e := by show ((e.i + outS e.f e.n e.i : Nat) : Int) = ((e.i + 1 : Nat) : Int); rw [st3 h])) (vpNum (n := e.n) (e := e.f) (e' := e.f) (vpNum (n := (e.l ++ e.b).length) (e := bt (e.l ++ e.b)) (e' := bt (e.l ++ e.b)) vpNil)) (glO (p := p)) (go3n p e q o hk h) (St.same (Rw.same _ _) s)
theorem rdo3z (hb : Base B μ 30000) (q : Fqo p e) (o : OF e) (hk : e.i < e.n) (h : OK e 3) (h0 : e.l = []) (s : So p e true B w0 μ a w) : lo.wp Tryz.prog (fun x a' w' => x = .normal ∧ So p e.nx false B w0 μ a' w') a w :=
  runTo_sound (fs := fso false) (bs := bso false 30003) (T := (Ro3 p e q o hk h).T) (T' := TO p e.nx) mixed hNo (C := cvo3z) (ex := .normal) hb (show 30000 ≤ 30002 by decide) (rl := [(30001, 30003)]) rfl (by rfl) (Go.X.ipZ (ipE (ipK' ipNil (e := by show ((e.l ++ e.b).length : Int) = 3; rw [h0, b3 h]; rfl))) (e := by show ((e.i + outS e.f e.n e.i : Nat) : Int) = ((e.i + 1 : Nat) : Int); rw [st3 h])) (vpNum (n := e.n) (e := e.f) (e' := e.f) (vpRow (n := (e.l ++ e.b).length) (K := .u8) (f := bt (e.l ++ e.b)) vpNil (by rw [h0, b3 h]; rfl) (by rw [h0, b3 h]; show (3 : Nat) < 1000000; decide) rfl rfl (fun m hm => by
    rw [h0, List.nil_append, ← (src3 h).len] at hm
    obtain ⟨v, v1, v2⟩ := (src3 h).at_ m hm
    refine ⟨v, v1, v2.trans ?_⟩
    rw [h0]; rfl))) (glO (p := p)) (go3z p e q o hk h) (St.same (Rw.same _ _) s)
theorem rdo4n (hb : Base B μ 30000) (q : Fqo p e) (o : OF e) (hk : e.i < e.n) (h : OK e 4) (s : So p e false B w0 μ a w) : lo.wp Tryz.prog (fun x a' w' => x = .normal ∧ So p e.nx false B w0 μ a' w') a w :=
  runTo_sound (fs := fso false) (bs := bso false 30003) (T := (Ro4 p e q o hk h).T) (T' := TO p e.nx) mixed hNo (C := cvo4n) (ex := .normal) hb (show 30000 ≤ 30002 by decide) (rl := [(30001, 30003)]) rfl (by rfl) (Go.X.ipZ (ipE (ipE ipNil)) (e := by show ((e.i + outS e.f e.n e.i : Nat) : Int) = ((e.i + 1 : Nat) : Int); rw [st4 h])) (vpNum (n := e.n) (e := e.f) (e' := e.f) (vpNum (n := (e.l ++ e.b).length) (e := bt (e.l ++ e.b)) (e' := bt (e.l ++ e.b)) vpNil)) (glO (p := p)) (go4n p e q o hk h) (St.same (Rw.same _ _) s)
theorem rdo4z (hb : Base B μ 30000) (q : Fqo p e) (o : OF e) (hk : e.i < e.n) (h : OK e 4) (h0 : e.l = []) (s : So p e true B w0 μ a w) : lo.wp Tryz.prog (fun x a' w' => x = .normal ∧ So p e.nx false B w0 μ a' w') a w :=
  runTo_sound (fs := fso false) (bs := bso false 30003) (T := (Ro4 p e q o hk h).T) (T' := TO p e.nx) mixed hNo (C := cvo4z) (ex := .normal) hb (show 30000 ≤ 30002 by decide) (rl := [(30001, 30003)]) rfl (by rfl) (Go.X.ipZ (ipE (ipK' ipNil (e := by show ((e.l ++ e.b).length : Int) = 1; rw [h0, b4 h]; rfl))) (e := by show ((e.i + outS e.f e.n e.i : Nat) : Int) = ((e.i + 1 : Nat) : Int); rw [st4 h])) (vpNum (n := e.n) (e := e.f) (e' := e.f) (vpRow (n := (e.l ++ e.b).length) (K := .u8) (f := bt (e.l ++ e.b)) vpNil (by rw [h0, b4 h]; rfl) (by rw [h0, b4 h]; show (1 : Nat) < 1000000; decide) rfl rfl (fun m hm => by
    rw [h0, List.nil_append, ← (src4 h).len] at hm
    obtain ⟨v, v1, v2⟩ := (src4 h).at_ m hm
    refine ⟨v, v1, v2.trans ?_⟩
    rw [h0]; rfl))) (glO (p := p)) (go4z p e q o hk h) (St.same (Rw.same _ _) s)
theorem rdo5n (hb : Base B μ 30000) (q : Fqo p e) (o : OF e) (hk : e.i < e.n) (h : OK e 5) (s : So p e false B w0 μ a w) : lo.wp Tryz.prog (fun x a' w' => x = .normal ∧ So p e.nx false B w0 μ a' w') a w :=
  runTo_sound (fs := fso false) (bs := bso false 30003) (T := (Ro5 p e q o hk h).T) (T' := TO p e.nx) mixed hNo (C := cvo5n) (ex := .normal) hb (show 30000 ≤ 30002 by decide) (rl := [(30001, 30003)]) rfl (by rfl) (Go.X.ipZ (ipE (ipE ipNil)) (e := by show ((e.i + outS e.f e.n e.i : Nat) : Int) = ((e.i + 1 : Nat) : Int); rw [st5 h])) (vpNum (n := e.n) (e := e.f) (e' := e.f) (vpNum (n := (e.l ++ e.b).length) (e := bt (e.l ++ e.b)) (e' := bt (e.l ++ e.b)) vpNil)) (glO (p := p)) (go5n p e q o hk h) (St.same (Rw.same _ _) s)
theorem rdo5z (hb : Base B μ 30000) (q : Fqo p e) (o : OF e) (hk : e.i < e.n) (h : OK e 5) (h0 : e.l = []) (s : So p e true B w0 μ a w) : lo.wp Tryz.prog (fun x a' w' => x = .normal ∧ So p e.nx false B w0 μ a' w') a w :=
  runTo_sound (fs := fso false) (bs := bso false 30003) (T := (Ro5 p e q o hk h).T) (T' := TO p e.nx) mixed hNo (C := cvo5z) (ex := .normal) hb (show 30000 ≤ 30002 by decide) (rl := [(30001, 30003)]) rfl (by rfl) (Go.X.ipZ (ipE (ipK' ipNil (e := by show ((e.l ++ e.b).length : Int) = 1; rw [h0, b5 h]; rfl))) (e := by show ((e.i + outS e.f e.n e.i : Nat) : Int) = ((e.i + 1 : Nat) : Int); rw [st5 h])) (vpNum (n := e.n) (e := e.f) (e' := e.f) (vpRow (n := (e.l ++ e.b).length) (K := .u8) (f := bt (e.l ++ e.b)) vpNil (by rw [h0, b5 h]; rfl) (by rw [h0, b5 h]; show (1 : Nat) < 1000000; decide) rfl rfl (fun m hm => by
    rw [h0, List.nil_append, ← (src5 h).len] at hm
    obtain ⟨v, v1, v2⟩ := (src5 h).at_ m hm
    refine ⟨v, v1, v2.trans ?_⟩
    rw [h0]; rfl))) (glO (p := p)) (go5z p e q o hk h) (St.same (Rw.same _ _) s)
theorem rdo6n (hb : Base B μ 30000) (q : Fqo p e) (o : OF e) (hk : e.i < e.n) (h : OK e 6) (s : So p e false B w0 μ a w) : lo.wp Tryz.prog (fun x a' w' => x = .normal ∧ So p e.nx false B w0 μ a' w') a w :=
  runTo_sound (fs := fso false) (bs := bso false 30003) (T := (Ro6 p e q o hk h).T) (T' := TO p e.nx) mixed hNo (C := cvo6n) (ex := .normal) hb (show 30000 ≤ 30002 by decide) (rl := [(30001, 30003)]) rfl (by rfl) (Go.X.ipZ (ipE (ipE ipNil)) (e := by show ((e.i + outS e.f e.n e.i : Nat) : Int) = ((e.i + 1 : Nat) : Int); rw [st6 h])) (vpNum (n := e.n) (e := e.f) (e' := e.f) (vpNum (n := (e.l ++ e.b).length) (e := bt (e.l ++ e.b)) (e' := bt (e.l ++ e.b)) vpNil)) (glO (p := p)) (go6n p e q o hk h) (St.same (Rw.same _ _) s)
theorem rdo6z (hb : Base B μ 30000) (q : Fqo p e) (o : OF e) (hk : e.i < e.n) (h : OK e 6) (h0 : e.l = []) (s : So p e true B w0 μ a w) : lo.wp Tryz.prog (fun x a' w' => x = .normal ∧ So p e.nx false B w0 μ a' w') a w :=
  runTo_sound (fs := fso false) (bs := bso false 30003) (T := (Ro6 p e q o hk h).T) (T' := TO p e.nx) mixed hNo (C := cvo6z) (ex := .normal) hb (show 30000 ≤ 30002 by decide) (rl := [(30001, 30003)]) rfl (by rfl) (Go.X.ipZ (ipE (ipK' ipNil (e := by show ((e.l ++ e.b).length : Int) = 1; rw [h0, b6 h]; rfl))) (e := by show ((e.i + outS e.f e.n e.i : Nat) : Int) = ((e.i + 1 : Nat) : Int); rw [st6 h])) (vpNum (n := e.n) (e := e.f) (e' := e.f) (vpRow (n := (e.l ++ e.b).length) (K := .u8) (f := bt (e.l ++ e.b)) vpNil (by rw [h0, b6 h]; rfl) (by rw [h0, b6 h]; show (1 : Nat) < 1000000; decide) rfl rfl (fun m hm => by
    rw [h0, List.nil_append, ← (src6 h).len] at hm
    obtain ⟨v, v1, v2⟩ := (src6 h).at_ m hm
    refine ⟨v, v1, v2.trans ?_⟩
    rw [h0]; rfl))) (glO (p := p)) (go6z p e q o hk h) (St.same (Rw.same _ _) s)
theorem rdo7n (hb : Base B μ 30000) (q : Fqo p e) (o : OF e) (hk : e.i < e.n) (h : OK e 7) (s : So p e false B w0 μ a w) : lo.wp Tryz.prog (fun x a' w' => x = .normal ∧ So p e.nx false B w0 μ a' w') a w :=
  runTo_sound (fs := fso false) (bs := bso false 30003) (T := (Ro7 p e q o hk h).T) (T' := TO p e.nx) mixed hNo (C := cvo7n) (ex := .normal) hb (show 30000 ≤ 30002 by decide) (rl := [(30001, 30003)]) rfl (by rfl) (Go.X.ipZ (ipE (ipE ipNil)) (e := by show ((e.i + outS e.f e.n e.i : Nat) : Int) = ((e.i + 2 : Nat) : Int); rw [st7 h])) (vpNum (n := e.n) (e := e.f) (e' := e.f) (vpNum (n := (e.l ++ e.b).length) (e := bt (e.l ++ e.b)) (e' := bt (e.l ++ e.b)) vpNil)) (glO (p := p)) (go7n p e q o hk h) (St.same (Rw.same _ _) s)
theorem rdo7z (hb : Base B μ 30000) (q : Fqo p e) (o : OF e) (hk : e.i < e.n) (h : OK e 7) (h0 : e.l = []) (s : So p e true B w0 μ a w) : lo.wp Tryz.prog (fun x a' w' => x = .normal ∧ So p e.nx false B w0 μ a' w') a w :=
  runTo_sound (fs := fso false) (bs := bso false 30003) (T := (Ro7 p e q o hk h).T) (T' := TO p e.nx) mixed hNo (C := cvo7z) (ex := .normal) hb (show 30000 ≤ 30002 by decide) (rl := [(30001, 30003)]) rfl (by rfl) (Go.X.ipZ (ipE (ipK' ipNil (e := by show ((e.l ++ e.b).length : Int) = 4; rw [h0, b7 h]; rfl))) (e := by show ((e.i + outS e.f e.n e.i : Nat) : Int) = ((e.i + 2 : Nat) : Int); rw [st7 h])) (vpNum (n := e.n) (e := e.f) (e' := e.f) (vpRow (n := (e.l ++ e.b).length) (K := .u8) (f := bt (e.l ++ e.b)) vpNil (by rw [h0, b7 h]; rfl) (by rw [h0, b7 h]; show (4 : Nat) < 1000000; decide) rfl rfl (fun m hm => by
    rw [h0, List.nil_append, ← (src7 h).len] at hm
    obtain ⟨v, v1, v2⟩ := (src7 h).at_ m hm
    refine ⟨v, v1, v2.trans ?_⟩
    rw [h0]; rfl))) (glO (p := p)) (go7z p e q o hk h) (St.same (Rw.same _ _) s)
theorem rdo8n (hb : Base B μ 30000) (q : Fqo p e) (o : OF e) (hk : e.i < e.n) (h : OK e 8) (s : So p e false B w0 μ a w) : lo.wp Tryz.prog (fun x a' w' => x = .normal ∧ So p e.nx false B w0 μ a' w') a w :=
  runTo_sound (fs := fso false) (bs := bso false 30003) (T := (Ro8 p e q o hk h).T) (T' := TO p e.nx) mixed hNo (C := cvo8n) (ex := .normal) hb (show 30000 ≤ 30002 by decide) (rl := [(30001, 30003)]) rfl (by rfl) (Go.X.ipZ (ipE (ipE ipNil)) (e := by show ((e.i + outS e.f e.n e.i : Nat) : Int) = ((e.i + 1 : Nat) : Int); rw [st8 h])) (vpNum (n := e.n) (e := e.f) (e' := e.f) (vpNum (n := (e.l ++ e.b).length) (e := bt (e.l ++ e.b)) (e' := bt (e.l ++ e.b)) vpNil)) (glO (p := p)) (go8n p e q o hk h) (St.same (Rw.same _ _) s)
theorem rdo8z (hb : Base B μ 30000) (q : Fqo p e) (o : OF e) (hk : e.i < e.n) (h : OK e 8) (h0 : e.l = []) (s : So p e true B w0 μ a w) : lo.wp Tryz.prog (fun x a' w' => x = .normal ∧ So p e.nx false B w0 μ a' w') a w :=
  runTo_sound (fs := fso false) (bs := bso false 30003) (T := (Ro8 p e q o hk h).T) (T' := TO p e.nx) mixed hNo (C := cvo8z) (ex := .normal) hb (show 30000 ≤ 30002 by decide) (rl := [(30001, 30003)]) rfl (by rfl) (Go.X.ipZ (ipE (ipK' ipNil (e := by show ((e.l ++ e.b).length : Int) = 1; rw [h0, b8 h]; rfl))) (e := by show ((e.i + outS e.f e.n e.i : Nat) : Int) = ((e.i + 1 : Nat) : Int); rw [st8 h])) (vpNum (n := e.n) (e := e.f) (e' := e.f) (vpRow (n := (e.l ++ e.b).length) (K := .u8) (f := bt (e.l ++ e.b)) vpNil (by rw [h0, b8 h]; rfl) (by rw [h0, b8 h]; show (1 : Nat) < 1000000; decide) rfl rfl (fun m hm => by
    rw [h0, List.nil_append, ← (src8 h).len] at hm
    obtain ⟨v, v1, v2⟩ := (src8 h).at_ m hm
    refine ⟨v, v1, v2.trans ?_⟩
    rw [h0]; rfl))) (glO (p := p)) (go8z p e q o hk h) (St.same (Rw.same _ _) s)
theorem rndon (hb : Base B μ 30000) (q : Fqo p e) (o : OF e) (hk : e.i < e.n) (s : So p e false B w0 μ a w) : lo.wp Tryz.prog (fun x a' w' => x = .normal ∧ So p e.nx false B w0 μ a' w') a w := by
  obtain ⟨k, hk9, h⟩ := OK_ex e o
  match k, hk9, h with
  | 0, _, h => exact rdo0n hb q o hk h s
  | 1, _, h => exact rdo1n hb q o hk h s
  | 2, _, h => exact rdo2n hb q o hk h s
  | 3, _, h => exact rdo3n hb q o hk h s
  | 4, _, h => exact rdo4n hb q o hk h s
  | 5, _, h => exact rdo5n hb q o hk h s
  | 6, _, h => exact rdo6n hb q o hk h s
  | 7, _, h => exact rdo7n hb q o hk h s
  | 8, _, h => exact rdo8n hb q o hk h s
  | _ + 9, h9, _ => omega
theorem rndoz (hb : Base B μ 30000) (q : Fqo p e) (o : OF e) (hk : e.i < e.n) (h0 : e.l = []) (s : So p e true B w0 μ a w) : lo.wp Tryz.prog (fun x a' w' => x = .normal ∧ So p e.nx false B w0 μ a' w') a w := by
  obtain ⟨k, hk9, h⟩ := OK_ex e o
  match k, hk9, h with
  | 0, _, h => exact rdo0z hb q o hk h h0 s
  | 1, _, h => exact rdo1z hb q o hk h h0 s
  | 2, _, h => exact rdo2z hb q o hk h h0 s
  | 3, _, h => exact rdo3z hb q o hk h h0 s
  | 4, _, h => exact rdo4z hb q o hk h h0 s
  | 5, _, h => exact rdo5z hb q o hk h h0 s
  | 6, _, h => exact rdo6z hb q o hk h h0 s
  | 7, _, h => exact rdo7z hb q o hk h h0 s
  | 8, _, h => exact rdo8z hb q o hk h h0 s
  | _ + 9, h9, _ => omega
abbrev REo (p : Pm) (e : Oe) (hk : ¬ e.i < e.n) : Rw (ivO e) (vvO e) (vkO e) (fgO p) (txO e) where
  vvp := vvOp e
  ib := [(11, .oi 0, .oi 2, .bool false)]
  ibok := by as_aux_lemma => exact rLtK ibNil
noncomputable abbrev cvEo : Cv := ⟨30000, 30002, ofPairs [(30001, 30001)], [(.oi 0, 0), (.oi 2, 2), (.oi 3, 3)]⟩
theorem gEo : ∀ p e hk, runTo (REo p e hk).T Tryz.prog Hand.none 3000 Tryz.f115.ntmps lo (frOf (fso false)) (hOf 30002 (bso false 30001)) (.exit 0) cvEo [(20129, .vec 0, 0), (30001, .vec 1, 1)] (fso false) (bso false 30001) = true := fun p e hk => by as_aux_lemma => kernel_rfl
theorem exo (hb : Base B μ 30000) (hk : ¬ e.i < e.n) (s : So p e false B w0 μ a w) : lo.wp Tryz.prog (fun x a' w' => x = .exit 0 ∧ So p e false B w0 μ a' w') a w :=
  runTo_sound (fs := fso false) (bs := bso false 30001) (T := (REo p e hk).T) (T' := TO p e) mixed hNo (C := cvEo) (ex := .exit 0) hb (show 30000 ≤ 30002 by decide) (rl := [(30001, 30001)]) rfl (by rfl) (ipE (ipE (ipE ipNil))) (vpNum (n := e.n) (e := e.f) (e' := e.f) (vpNum (n := e.l.length) (e := bt e.l) (e' := bt e.l) vpNil)) (glO (p := p)) (gEo p e hk) (St.same (Rw.same _ _) s)
theorem rso (hb : Base B μ 30000) : ∀ (j : Nat) (e : Oe) (a : Act) (w : World), e.n - e.i < j → Fqo p e → OF e → So p e false B w0 μ a w → Code.rounds Tryz.prog lo (fun x a w => x = .exit 0 ∧ ∃ e', Fqo p e' ∧ e'.n = e.n ∧ e'.l = outL e.f e.n j e.i e.l ∧ So p e' false B w0 μ a w) j a w
  | 0, e, a, w, h1, q, o, s => by omega
  | j + 1, e, a, w, h1, q, o, s => by
    by_cases hk : e.i < e.n
    · refine rounds_of (wp_mono (rndon hb q o hk s) ?_)
      rintro x a' w' ⟨rfl, s'⟩
      have h2 := outS_le (f := e.f) hk
      have h := rso hb j e.nx a' w' (by show e.n - (e.i + outS e.f e.n e.i) < j; omega) ⟨q.n, q.f⟩ (o.nx hk) s'
      have e1 : outL e.f e.n (j + 1) e.i e.l = outL e.nx.f e.nx.n j e.nx.i e.nx.l := if_pos hk
      rw [e1]; exact h
    · refine rounds_of (wp_mono (exo hb hk s) ?_)
      rintro x a' w' ⟨rfl, s'⟩
      have e1 : outL e.f e.n (j + 1) e.i e.l = e.l := if_neg hk
      rw [e1]
      exact ⟨rfl, e, q, rfl, rfl, s'⟩
end
def e0o (p : Pm) : Oe := ⟨p.la, 0, p.A, []⟩
noncomputable abbrev fsSo : List (Nat × AV) := [(0, .ov 20129 2 1), (3, .nils)]
noncomputable def ino (N : Nat) : In := ⟨115, [.ov 20129 0 1], N, [(20129, .vec 5)], .ov N 21 1, Nat.add N 40, (N, .vec 6) :: [(20129, .vec 5)]⟩
noncomputable abbrev cvSo : Cv := ⟨30000, 30002, ofPairs [], [(.oi 0, 2)]⟩
def GSo (N : Nat) : Prop := ∀ p, firstTo (TP p) Tryz.prog Hand.none 3000 Tryz.f115.ntmps 2 co (T.ofList 0 .leaf [.ov 20129 0 1]) (hIn N [(20129, .vec 5)]) cvSo [(20129, .vec 5, 0)] fsSo (bso true 0) = true
noncomputable abbrev cvTo : Cv := ⟨30000, 30002, ofPairs [], [(.int .i64 0, 0), (.oi 2, 2)]⟩
theorem gto : ∀ p e, runTo (TO p e) Tryz.prog Hand.none 3000 Tryz.f115.ntmps io (frOf fsSo) (hOf 30002 (bso true 0)) .normal cvTo [(20129, .vec 0, 0)] (fso true) (bso true 0) = true := fun p e => by as_aux_lemma => kernel_rfl
noncomputable def cvFo (N : Nat) : Cv := ⟨N, Nat.add N 40, ofPairs [(N, 30001)], [(.oi 2, 0), (.oi 3, 21)]⟩
noncomputable def bsFo (N : Nat) : BS := (N, 30001, .vec 6) :: [(20129, 20129, .vec 5)]
def GFo (N : Nat) : Prop := ∀ p e, runTo (TO p e) Tryz.prog Hand.none 3000 Tryz.f115.ntmps (restn 3 co) (frOf (fso false)) (hOf 30002 (bso false 30001)) .ret (cvFo N) [(20129, .vec 0, 5), (30001, .vec 1, 6)] [(2, .ov N 21 1)] (bsFo N) = true
theorem outo_ok {p : Pm} {N : Nat} (h : Ar p) (bt' : Bt p) (h0 : 0 < p.la) (gs : GSo N) (gf : GFo N) (hN : N ≤ 30000) (l : okLim (ino N).bs' = true) (hl : hasAll (hOf (Nat.add N 40) (bsFo N)) (ino N).bs' = true) (rk : okRn (cvFo N) [(N, 30001)] = true)
    (hr : results? Tryz.prog Tryz.f115 (frOf [(2, .ov N 21 1)]) (hOf (Nat.add N 40) (bsFo N)) = some (.ov N 21 1)) : @InOk Tryz.prog (ino N) (TP p) := by
  letI : Tab := TP p
  refine ⟨l, hOf (Nat.add N 40) (bsFo N), ?_, hOf_next'.symm, hl⟩
  refine callOk_of (fn := Tryz.f115) Tryz.func115 co_eq (show 1 ≤ Tryz.f115.ntmps by decide +kernel) (show 1 < limit by decide) fun B w0 μ a0 w hb s => ?_
  have hb : Base B μ N := by
    have h := hb
    rw [show (hIn (ino N).N (ino N).bs).next = N from hIn_next] at h
    exact h
  have hbU : Base B μ 30000 := baseUp hb hN
  have g0 := St.gl s
  have q0 : Fqo p (e0o p) := ⟨rfl, rfl⟩
  have o0 : OF (e0o p) := ⟨h.a60, fun m => (h.hA m).1, fun m => (h.hA m).2, Nat.le_refl _, Nat.zero_le _⟩
  refine firstTo_sound (T := TP p) (T' := TO p (e0o p)) (n := 2) mixed hNo (C := cvSo) (rl := []) (fs := fsSo) (bs := bso true 0)
    hbU (show 30000 ≤ 30002 by decide) rfl rfl (ipE ipNil) (vpNum (n := p.la) (e := p.A) (e' := p.A) vpNil) (fun _ => glPO g0) (gs p) s fun a1 w1 s1 => ?_
  rw [c2o_eq]
  refine wp_seq (wp_seq (wp_mono (runTo_sound (fs := fso true) (bs := bso true 0) (T := TO p (e0o p)) (T' := TO p (e0o p)) mixed hNo (C := cvTo) (ex := .normal) hbU (show 30000 ≤ 30002 by decide) (rl := []) rfl rfl (ipK' (ipE ipNil) (e := rfl)) (vpNum (n := p.la) (e := p.A) (e' := p.A) vpNil) (glO (p := p)) (gto p (e0o p)) s1) ?_))
  rintro x a2 w2 ⟨rfl, s2⟩
  have s2 : So p (e0o p) true B w0 μ a2 w2 := s2
  show (Code.block 0 (.loop lo)).wp _ _ _ _
  have hs := outS_le (f := p.A) (n := p.la) (i := 0) h0
  have main : Code.rounds Tryz.prog lo (fun x a w => x = .exit 0 ∧ ∃ e', Fqo p e' ∧ e'.n = p.la ∧ e'.l = fin p ∧ So p e' false B w0 μ a w) (p.la + 1) a2 w2 := by
    refine rounds_of (wp_mono (rndoz (e := e0o p) hbU q0 o0 h0 rfl s2) ?_)
    rintro x a' w' ⟨rfl, s'⟩
    have hh := rso hbU p.la (e0o p).nx a' w' (by show p.la - (0 + outS p.A p.la 0) < p.la; omega) ⟨rfl, rfl⟩ (o0.nx h0) s'
    have e1 : fin p = outL (e0o p).nx.f (e0o p).nx.n p.la (e0o p).nx.i (e0o p).nx.l := if_pos h0
    rw [e1]; exact hh
  refine wp_block (wp_mono (wp_loop_rounds (p.la + 1) main) ?_)
  rintro x a3 w3 ⟨rfl, e', q', n', l', s3⟩
  show (restn 3 co).wp _ _ _ _
  refine wp_mono (runTo_sound (fs := [(2, .ov N 21 1)]) (bs := bsFo N) (T := TO p e') (T' := TP p) mixed hNo (C := cvFo N) (ex := .ret) hb (Nat.le_add_right N 40) (rl := [(N, 30001)]) rfl rk (Go.X.ipZ (Go.X.ipZ ipNil (e := by show (p.lb : Int) = (e'.l.length : Int); rw [l', bt'.lb])) (e := by show (p.la : Int) = (e'.n : Int); rw [n'])) (vpNum (n := p.la) (e := p.A) (e' := p.A) (vpNum (n := p.lb) (K := .u8) (e := bt (fin p)) (e' := p.E) vpNil (by show numV .u8 e'.l.length (bt e'.l) = _; rw [l', bt'.lb]) rfl (by show e'.l.length = _; rw [l', bt'.lb]) rfl (fun m _ => by rw [bt'.E])) (by show numV .u16 e'.n e'.f = _; rw [q'.n, q'.f]) rfl (by show e'.n = _; rw [q'.n]) rfl) (fun _ => g0) (gf p e') s3) ?_
  rintro x a4 w4 ⟨rfl, s4⟩
  exact St.done (τ := TP p) (e := .ret) (.inr rfl) hr s4
theorem gso : GSo 20146 := fun p => by as_aux_lemma => kernel_rfl
theorem gfo : GFo 20146 := fun p e => by as_aux_lemma => kernel_rfl
theorem outo146_ok {p : Pm} (h : Ar p) (b : Bt p) (h0 : 0 < p.la) : @InOk Tryz.prog (ino 20146) (TP p) := outo_ok h b h0 gso gfo (by decide) (by kernel_rfl) (by kernel_rfl) (by kernel_rfl) (by kernel_rfl)
end Go.Proofs.YtkkaifeiopjjdaaGreatDoor.np
