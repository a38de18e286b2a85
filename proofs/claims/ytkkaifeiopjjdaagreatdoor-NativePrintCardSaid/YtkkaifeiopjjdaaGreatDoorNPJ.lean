/-
  Chars as UTF-8: the reference's, a contract.
-/
import Derived.Test.YtkkaifeiopjjdaaGreatDoorNPI
set_option linter.unusedVariables false
set_option linter.unusedSimpArgs false
set_option linter.unusedSectionVars false
set_option maxRecDepth 1000000
set_option maxHeartbeats 0
namespace Go.Proofs.YtkkaifeiopjjdaaGreatDoor.np
open Go.X Go.RowKit Go.Proofs
noncomputable def cg : Code := codeOf Tryz.f18
theorem cg_eq : Tryz.f18.body = some cg := by kernel_rfl
noncomputable def ig : Code := hd (hd (restn 2 cg))
noncomputable def lg : Code := lpIn (tl (hd (restn 2 cg)))
theorem c2g_eq : restn 2 cg = .seq (.seq ig (.block 0 (.loop lg))) (restn 3 cg) := by kernel_rfl
noncomputable abbrev sbg : BS := []
noncomputable def fsg (z : Bool) : List (Nat × AV) := [(0, .fo 1 2 1), (3, Bool.rec (.ov 30001 3 1) .nils z), (4, .oi 0)]
noncomputable def bsg (z : Bool) (a : Nat) : BS := sbg ++ (Bool.rec [(30001, a, .vec 1)] [] z : BS)
structure Fqg (p : Pm) (e : Oe) : Prop where
  n : e.n = p.la
  f : e.f = p.A
noncomputable abbrev Rg0 (p : Pm) (e : Oe) (q : Fqg p e) (o : OF e) (hk : e.i < e.n) (h : OK e 0) : Rw (ivO e) (vvO e) (vkO e) (fgO p) (txO e) where
  vvp := vvOp e
  ib := ibg0
  ibok := ibg0_ok o hk h
  ic := icg0
  icok := icg0_ok o hk h
  va := [⟨1, 3, 1, sr0, 2, 4⟩]
  vaok := aLO o hk (src0 h)
  fl := [⟨1, 0, 1, 0, [.oi 5]⟩]
  flok := by
    have hk2 : e.i < p.la := by rw [← q.n]; exact hk
    as_aux_lemma => exact fgN (allNil) (n := p.la) (e := p.A) (hy := by rw [← q.f]; rfl)
noncomputable abbrev cvg0n : Cv := ⟨30000, 30002, ofPairs [(30001, 30003)], [(.fo 1 2 1, 1), (.oi 1, 0), (.oi 2, 2), (.oi 4, 3)]⟩
theorem gg0n : ∀ p e q o hk h, runTo (Rg0 p e q o hk h).T Tryz.prog Hand.none 3000 Tryz.f18.ntmps lg (frOf (fsg false)) (hOf 30002 (bsg false 30001)) .normal cvg0n [(30003, .vec 2, 1)] (fsg false) (bsg false 30003) = true := fun p e q o hk h => by as_aux_lemma => kernel_rfl
noncomputable abbrev cvg0z : Cv := ⟨30000, 30002, ofPairs [(30001, 30003)], [(.fo 1 2 1, 1), (.oi 1, 0), (.oi 2, 2), (.int .i64 1, 3)]⟩
theorem gg0z : ∀ p e q o hk h, runTo (Rg0 p e q o hk h).T Tryz.prog Hand.none 3000 Tryz.f18.ntmps lg (frOf (fsg true)) (hOf 30002 (bsg true 30001)) .normal cvg0z [(30003, rowOf sr0 true, 1)] (fsg false) (bsg false 30003) = true := fun p e q o hk h => by as_aux_lemma => kernel_rfl
noncomputable abbrev Rg1 (p : Pm) (e : Oe) (q : Fqg p e) (o : OF e) (hk : e.i < e.n) (h : OK e 1) : Rw (ivO e) (vvO e) (vkO e) (fgO p) (txO e) where
  vvp := vvOp e
  ib := ibg1
  ibok := ibg1_ok o hk h
  ic := icg1
  icok := icg1_ok o hk h
  va := [⟨1, 3, 1, sr1, 2, 4⟩]
  vaok := aLO o hk (src1 h)
  fl := [⟨1, 0, 1, 0, [.oi 5]⟩]
  flok := by
    have hk2 : e.i < p.la := by rw [← q.n]; exact hk
    as_aux_lemma => exact fgN (allNil) (n := p.la) (e := p.A) (hy := by rw [← q.f]; rfl)
noncomputable abbrev cvg1n : Cv := ⟨30000, 30002, ofPairs [(30001, 30003)], [(.fo 1 2 1, 1), (.oi 1, 0), (.oi 2, 2), (.oi 4, 3)]⟩
theorem gg1n : ∀ p e q o hk h, runTo (Rg1 p e q o hk h).T Tryz.prog Hand.none 3000 Tryz.f18.ntmps lg (frOf (fsg false)) (hOf 30002 (bsg false 30001)) .normal cvg1n [(30003, .vec 2, 1)] (fsg false) (bsg false 30003) = true := fun p e q o hk h => by as_aux_lemma => kernel_rfl
noncomputable abbrev cvg1z : Cv := ⟨30000, 30002, ofPairs [(30001, 30003)], [(.fo 1 2 1, 1), (.oi 1, 0), (.oi 2, 2), (.int .i64 2, 3)]⟩
theorem gg1z : ∀ p e q o hk h, runTo (Rg1 p e q o hk h).T Tryz.prog Hand.none 3000 Tryz.f18.ntmps lg (frOf (fsg true)) (hOf 30002 (bsg true 30001)) .normal cvg1z [(30003, rowOf sr1 true, 1)] (fsg false) (bsg false 30003) = true := fun p e q o hk h => by as_aux_lemma => kernel_rfl
noncomputable abbrev Rg2 (p : Pm) (e : Oe) (q : Fqg p e) (o : OF e) (hk : e.i < e.n) (h : OK e 2) : Rw (ivO e) (vvO e) (vkO e) (fgO p) (txO e) where
  vvp := vvOp e
  ib := ibg2
  ibok := ibg2_ok o hk h
  ic := icg2
  icok := icg2_ok o hk h
  va := [⟨1, 3, 1, sr2, 2, 4⟩]
  vaok := aLO o hk (src2 h)
  fl := [⟨1, 0, 1, 0, [.oi 5]⟩]
  flok := by
    have hk2 : e.i < p.la := by rw [← q.n]; exact hk
    as_aux_lemma => exact fgN (allNil) (n := p.la) (e := p.A) (hy := by rw [← q.f]; rfl)
noncomputable abbrev cvg2n : Cv := ⟨30000, 30002, ofPairs [(30001, 30003)], [(.fo 1 2 1, 1), (.oi 1, 0), (.oi 2, 2), (.oi 4, 3)]⟩
theorem gg2n : ∀ p e q o hk h, runTo (Rg2 p e q o hk h).T Tryz.prog Hand.none 3000 Tryz.f18.ntmps lg (frOf (fsg false)) (hOf 30002 (bsg false 30001)) .normal cvg2n [(30003, .vec 2, 1)] (fsg false) (bsg false 30003) = true := fun p e q o hk h => by as_aux_lemma => kernel_rfl
noncomputable abbrev cvg2z : Cv := ⟨30000, 30002, ofPairs [(30001, 30003)], [(.fo 1 2 1, 1), (.oi 1, 0), (.oi 2, 2), (.int .i64 3, 3)]⟩
theorem gg2z : ∀ p e q o hk h, runTo (Rg2 p e q o hk h).T Tryz.prog Hand.none 3000 Tryz.f18.ntmps lg (frOf (fsg true)) (hOf 30002 (bsg true 30001)) .normal cvg2z [(30003, rowOf sr2 true, 1)] (fsg false) (bsg false 30003) = true := fun p e q o hk h => by as_aux_lemma => kernel_rfl
noncomputable abbrev Rg3 (p : Pm) (e : Oe) (q : Fqg p e) (o : OF e) (hk : e.i < e.n) (h : OK e 3) : Rw (ivO e) (vvO e) (vkO e) (fgO p) (txO e) where
  vvp := vvOp e
  ib := ibg3
  ibok := ibg3_ok o hk h
  ic := icg3
  icok := icg3_ok o hk h
  va := [⟨1, 3, 1, sr3, 2, 4⟩]
  vaok := aLO o hk (src3 h)
  fl := [⟨1, 0, 1, 0, [.oi 5]⟩]
  flok := by
    have hk2 : e.i < p.la := by rw [← q.n]; exact hk
    as_aux_lemma => exact fgN (allNil) (n := p.la) (e := p.A) (hy := by rw [← q.f]; rfl)
noncomputable abbrev cvg3n : Cv := ⟨30000, 30002, ofPairs [(30001, 30003)], [(.fo 1 2 1, 1), (.oi 1, 0), (.oi 2, 2), (.oi 4, 3)]⟩
theorem gg3n : ∀ p e q o hk h, runTo (Rg3 p e q o hk h).T Tryz.prog Hand.none 3000 Tryz.f18.ntmps lg (frOf (fsg false)) (hOf 30002 (bsg false 30001)) .normal cvg3n [(30003, .vec 2, 1)] (fsg false) (bsg false 30003) = true := fun p e q o hk h => by as_aux_lemma => kernel_rfl
noncomputable abbrev cvg3z : Cv := ⟨30000, 30002, ofPairs [(30001, 30003)], [(.fo 1 2 1, 1), (.oi 1, 0), (.oi 2, 2), (.int .i64 3, 3)]⟩
theorem gg3z : ∀ p e q o hk h, runTo (Rg3 p e q o hk h).T Tryz.prog Hand.none 3000 Tryz.f18.ntmps lg (frOf (fsg true)) (hOf 30002 (bsg true 30001)) .normal cvg3z [(30003, rowOf sr3 true, 1)] (fsg false) (bsg false 30003) = true := fun p e q o hk h => by as_aux_lemma => kernel_rfl
noncomputable abbrev Rg4 (p : Pm) (e : Oe) (q : Fqg p e) (o : OF e) (hk : e.i < e.n) (h : OK e 4) : Rw (ivO e) (vvO e) (vkO e) (fgO p) (txO e) where
  vvp := vvOp e
  ib := ibg4
  ibok := ibg4_ok o hk h
  ic := icg4
  icok := icg4_ok o hk h
  va := [⟨1, 3, 1, sr4, 2, 4⟩]
  vaok := aLO o hk (src4 h)
  fl := [⟨1, 0, 1, 0, [.oi 5]⟩]
  flok := by
    have hk2 : e.i < p.la := by rw [← q.n]; exact hk
    as_aux_lemma => exact fgN (allNil) (n := p.la) (e := p.A) (hy := by rw [← q.f]; rfl)
noncomputable abbrev cvg4n : Cv := ⟨30000, 30002, ofPairs [(30001, 30003)], [(.fo 1 2 1, 1), (.oi 1, 0), (.oi 2, 2), (.oi 4, 3)]⟩
theorem gg4n : ∀ p e q o hk h, runTo (Rg4 p e q o hk h).T Tryz.prog Hand.none 3000 Tryz.f18.ntmps lg (frOf (fsg false)) (hOf 30002 (bsg false 30001)) .normal cvg4n [(30003, .vec 2, 1)] (fsg false) (bsg false 30003) = true := fun p e q o hk h => by as_aux_lemma => kernel_rfl
noncomputable abbrev cvg4z : Cv := ⟨30000, 30002, ofPairs [(30001, 30003)], [(.fo 1 2 1, 1), (.oi 1, 0), (.oi 2, 2), (.int .i64 1, 3)]⟩
theorem gg4z : ∀ p e q o hk h, runTo (Rg4 p e q o hk h).T Tryz.prog Hand.none 3000 Tryz.f18.ntmps lg (frOf (fsg true)) (hOf 30002 (bsg true 30001)) .normal cvg4z [(30003, rowOf sr4 true, 1)] (fsg false) (bsg false 30003) = true := fun p e q o hk h => by as_aux_lemma => kernel_rfl
noncomputable abbrev Rg5 (p : Pm) (e : Oe) (q : Fqg p e) (o : OF e) (hk : e.i < e.n) (h : OK e 5) : Rw (ivO e) (vvO e) (vkO e) (fgO p) (txO e) where
  vvp := vvOp e
  ib := ibg5
  ibok := ibg5_ok o hk h
  ic := icg5
  icok := icg5_ok o hk h
  va := [⟨1, 3, 1, sr5, 2, 4⟩]
  vaok := aLO o hk (src5 h)
  fl := [⟨1, 0, 1, 0, [.oi 5]⟩]
  flok := by
    have hk2 : e.i < p.la := by rw [← q.n]; exact hk
    as_aux_lemma => exact fgN (allNil) (n := p.la) (e := p.A) (hy := by rw [← q.f]; rfl)
noncomputable abbrev cvg5n : Cv := ⟨30000, 30002, ofPairs [(30001, 30003)], [(.fo 1 2 1, 1), (.oi 1, 0), (.oi 2, 2), (.oi 4, 3)]⟩
theorem gg5n : ∀ p e q o hk h, runTo (Rg5 p e q o hk h).T Tryz.prog Hand.none 3000 Tryz.f18.ntmps lg (frOf (fsg false)) (hOf 30002 (bsg false 30001)) .normal cvg5n [(30003, .vec 2, 1)] (fsg false) (bsg false 30003) = true := fun p e q o hk h => by as_aux_lemma => kernel_rfl
noncomputable abbrev cvg5z : Cv := ⟨30000, 30002, ofPairs [(30001, 30003)], [(.fo 1 2 1, 1), (.oi 1, 0), (.oi 2, 2), (.int .i64 1, 3)]⟩
theorem gg5z : ∀ p e q o hk h, runTo (Rg5 p e q o hk h).T Tryz.prog Hand.none 3000 Tryz.f18.ntmps lg (frOf (fsg true)) (hOf 30002 (bsg true 30001)) .normal cvg5z [(30003, rowOf sr5 true, 1)] (fsg false) (bsg false 30003) = true := fun p e q o hk h => by as_aux_lemma => kernel_rfl
noncomputable abbrev Rg6 (p : Pm) (e : Oe) (q : Fqg p e) (o : OF e) (hk : e.i < e.n) (h : OK e 6) : Rw (ivO e) (vvO e) (vkO e) (fgO p) (txO e) where
  vvp := vvOp e
  ib := ibg6
  ibok := ibg6_ok o hk h
  ic := icg6
  icok := icg6_ok o hk h
  va := [⟨1, 3, 1, sr6, 2, 4⟩]
  vaok := aLO o hk (src6 h)
  fl := [⟨1, 0, 1, 0, [.oi 5]⟩, ⟨1, 1, 1, 0, [.oi 6]⟩]
  flok := by
    have hk2 : e.i < p.la := by rw [← q.n]; exact hk
    have h2 : e.i + 1 < p.la := by rw [← q.n]; exact h.2.2.1
    as_aux_lemma => exact fgN (fgN (allNil) (n := p.la) (e := p.A) (hy := by rw [← q.f]; rfl)) (n := p.la) (e := p.A) (hy := by rw [← q.f]; rfl)
noncomputable abbrev cvg6n : Cv := ⟨30000, 30002, ofPairs [(30001, 30003)], [(.fo 1 2 1, 1), (.oi 1, 0), (.oi 2, 2), (.oi 4, 3)]⟩
theorem gg6n : ∀ p e q o hk h, runTo (Rg6 p e q o hk h).T Tryz.prog Hand.none 3000 Tryz.f18.ntmps lg (frOf (fsg false)) (hOf 30002 (bsg false 30001)) .normal cvg6n [(30003, .vec 2, 1)] (fsg false) (bsg false 30003) = true := fun p e q o hk h => by as_aux_lemma => kernel_rfl
noncomputable abbrev cvg6z : Cv := ⟨30000, 30002, ofPairs [(30001, 30003)], [(.fo 1 2 1, 1), (.oi 1, 0), (.oi 2, 2), (.int .i64 1, 3)]⟩
theorem gg6z : ∀ p e q o hk h, runTo (Rg6 p e q o hk h).T Tryz.prog Hand.none 3000 Tryz.f18.ntmps lg (frOf (fsg true)) (hOf 30002 (bsg true 30001)) .normal cvg6z [(30003, rowOf sr6 true, 1)] (fsg false) (bsg false 30003) = true := fun p e q o hk h => by as_aux_lemma => kernel_rfl
noncomputable abbrev Rg7 (p : Pm) (e : Oe) (q : Fqg p e) (o : OF e) (hk : e.i < e.n) (h : OK e 7) : Rw (ivO e) (vvO e) (vkO e) (fgO p) (txO e) where
  vvp := vvOp e
  ib := ibg7
  ibok := ibg7_ok o hk h
  ic := icg7
  icok := icg7_ok o hk h
  va := [⟨1, 3, 1, sr7, 2, 4⟩]
  vaok := aLO o hk (src7 h)
  fl := [⟨1, 0, 1, 0, [.oi 5]⟩, ⟨1, 1, 1, 0, [.oi 6]⟩]
  flok := by
    have hk2 : e.i < p.la := by rw [← q.n]; exact hk
    have h2 : e.i + 1 < p.la := by rw [← q.n]; exact h.2.2.1
    as_aux_lemma => exact fgN (fgN (allNil) (n := p.la) (e := p.A) (hy := by rw [← q.f]; rfl)) (n := p.la) (e := p.A) (hy := by rw [← q.f]; rfl)
noncomputable abbrev cvg7n : Cv := ⟨30000, 30002, ofPairs [(30001, 30003)], [(.fo 1 2 1, 1), (.oi 47, 0), (.oi 2, 2), (.oi 4, 3)]⟩
theorem gg7n : ∀ p e q o hk h, runTo (Rg7 p e q o hk h).T Tryz.prog Hand.none 3000 Tryz.f18.ntmps lg (frOf (fsg false)) (hOf 30002 (bsg false 30001)) .normal cvg7n [(30003, .vec 2, 1)] (fsg false) (bsg false 30003) = true := fun p e q o hk h => by as_aux_lemma => kernel_rfl
noncomputable abbrev cvg7z : Cv := ⟨30000, 30002, ofPairs [(30001, 30003)], [(.fo 1 2 1, 1), (.oi 47, 0), (.oi 2, 2), (.int .i64 4, 3)]⟩
theorem gg7z : ∀ p e q o hk h, runTo (Rg7 p e q o hk h).T Tryz.prog Hand.none 3000 Tryz.f18.ntmps lg (frOf (fsg true)) (hOf 30002 (bsg true 30001)) .normal cvg7z [(30003, rowOf sr7 true, 1)] (fsg false) (bsg false 30003) = true := fun p e q o hk h => by as_aux_lemma => kernel_rfl
noncomputable abbrev Rg8 (p : Pm) (e : Oe) (q : Fqg p e) (o : OF e) (hk : e.i < e.n) (h : OK e 8) : Rw (ivO e) (vvO e) (vkO e) (fgO p) (txO e) where
  vvp := vvOp e
  ib := ibg8
  ibok := ibg8_ok o hk h
  ic := icg8
  icok := icg8_ok o hk h
  va := [⟨1, 3, 1, sr8, 2, 4⟩]
  vaok := aLO o hk (src8 h)
  fl := [⟨1, 0, 1, 0, [.oi 5]⟩, ⟨1, 1, 1, 0, [.oi 6]⟩]
  flok := by
    have hk2 : e.i < p.la := by rw [← q.n]; exact hk
    have h2 : e.i + 1 < p.la := by rw [← q.n]; exact h.2.2.1
    as_aux_lemma => exact fgN (fgN (allNil) (n := p.la) (e := p.A) (hy := by rw [← q.f]; rfl)) (n := p.la) (e := p.A) (hy := by rw [← q.f]; rfl)
noncomputable abbrev cvg8n : Cv := ⟨30000, 30002, ofPairs [(30001, 30003)], [(.fo 1 2 1, 1), (.oi 1, 0), (.oi 2, 2), (.oi 4, 3)]⟩
theorem gg8n : ∀ p e q o hk h, runTo (Rg8 p e q o hk h).T Tryz.prog Hand.none 3000 Tryz.f18.ntmps lg (frOf (fsg false)) (hOf 30002 (bsg false 30001)) .normal cvg8n [(30003, .vec 2, 1)] (fsg false) (bsg false 30003) = true := fun p e q o hk h => by as_aux_lemma => kernel_rfl
noncomputable abbrev cvg8z : Cv := ⟨30000, 30002, ofPairs [(30001, 30003)], [(.fo 1 2 1, 1), (.oi 1, 0), (.oi 2, 2), (.int .i64 1, 3)]⟩
theorem gg8z : ∀ p e q o hk h, runTo (Rg8 p e q o hk h).T Tryz.prog Hand.none 3000 Tryz.f18.ntmps lg (frOf (fsg true)) (hOf 30002 (bsg true 30001)) .normal cvg8z [(30003, rowOf sr8 true, 1)] (fsg false) (bsg false 30003) = true := fun p e q o hk h => by as_aux_lemma => kernel_rfl
def Sg (p : Pm) (e : Oe) (z : Bool) (B : Kp) (w0 : World) (μ : M) (a : Act) (w : World) : Prop := St (TO p e) B w0 μ Tryz.f18.ntmps (frOf (fsg z)) (hOf 30002 (bsg z 30001)) a w
section
variable {p : Pm} {e : Oe} {B : Kp} {w0 : World} {μ : M} {a : Act} {w : World}
theorem rdg0n (hb : Base B μ 30000) (q : Fqg p e) (o : OF e) (hk : e.i < e.n) (h : OK e 0) (s : Sg p e false B w0 μ a w) : lg.wp Tryz.prog (fun x a' w' => x = .normal ∧ Sg p e.nx false B w0 μ a' w') a w :=
  runTo_sound (fs := fsg false) (bs := bsg false 30003) (T := (Rg0 p e q o hk h).T) (T' := TO p e.nx) mixed hNo (C := cvg0n) (ex := .normal) hb (show 30000 ≤ 30002 by decide) (rl := [(30001, 30003)]) rfl (by rfl) (ipG (Go.X.ipZ (ipE (ipE ipNil)) (e := by show ((e.i + outS e.f e.n e.i : Nat) : Int) = ((e.i + 1 : Nat) : Int); rw [st0 h]))) (vpNum (n := (e.l ++ e.b).length) (e := bt (e.l ++ e.b)) (e' := bt (e.l ++ e.b)) vpNil) (glO (p := p)) (gg0n p e q o hk h) (St.same (Rw.same _ _) s)
theorem rdg0z (hb : Base B μ 30000) (q : Fqg p e) (o : OF e) (hk : e.i < e.n) (h : OK e 0) (h0 : e.l = []) (s : Sg p e true B w0 μ a w) : lg.wp Tryz.prog (fun x a' w' => x = .normal ∧ Sg p e.nx false B w0 μ a' w') a w :=
  runTo_sound (fs := fsg false) (bs := bsg false 30003) (T := (Rg0 p e q o hk h).T) (T' := TO p e.nx) mixed hNo (C := cvg0z) (ex := .normal) hb (show 30000 ≤ 30002 by decide) (rl := [(30001, 30003)]) rfl (by rfl) (ipG (Go.X.ipZ (ipE (ipK' ipNil (e := by show ((e.l ++ e.b).length : Int) = 1; rw [h0, b0 h]; rfl))) (e := by show ((e.i + outS e.f e.n e.i : Nat) : Int) = ((e.i + 1 : Nat) : Int); rw [st0 h]))) (vpRow (n := (e.l ++ e.b).length) (K := .u8) (f := bt (e.l ++ e.b)) vpNil (by rw [h0, b0 h]; rfl) (by rw [h0, b0 h]; show (1 : Nat) < 1000000; decide) rfl rfl (fun m hm => by
    rw [h0, List.nil_append, ← (src0 h).len] at hm
    obtain ⟨v, v1, v2⟩ := (src0 h).at_ m hm
    refine ⟨v, v1, v2.trans ?_⟩
    rw [h0]; rfl)) (glO (p := p)) (gg0z p e q o hk h) (St.same (Rw.same _ _) s)
theorem rdg1n (hb : Base B μ 30000) (q : Fqg p e) (o : OF e) (hk : e.i < e.n) (h : OK e 1) (s : Sg p e false B w0 μ a w) : lg.wp Tryz.prog (fun x a' w' => x = .normal ∧ Sg p e.nx false B w0 μ a' w') a w :=
  runTo_sound (fs := fsg false) (bs := bsg false 30003) (T := (Rg1 p e q o hk h).T) (T' := TO p e.nx) mixed hNo (C := cvg1n) (ex := .normal) hb (show 30000 ≤ 30002 by decide) (rl := [(30001, 30003)]) rfl (by rfl) (ipG (Go.X.ipZ (ipE (ipE ipNil)) (e := by show ((e.i + outS e.f e.n e.i : Nat) : Int) = ((e.i + 1 : Nat) : Int); rw [st1 h]))) (vpNum (n := (e.l ++ e.b).length) (e := bt (e.l ++ e.b)) (e' := bt (e.l ++ e.b)) vpNil) (glO (p := p)) (gg1n p e q o hk h) (St.same (Rw.same _ _) s)
theorem rdg1z (hb : Base B μ 30000) (q : Fqg p e) (o : OF e) (hk : e.i < e.n) (h : OK e 1) (h0 : e.l = []) (s : Sg p e true B w0 μ a w) : lg.wp Tryz.prog (fun x a' w' => x = .normal ∧ Sg p e.nx false B w0 μ a' w') a w :=
  runTo_sound (fs := fsg false) (bs := bsg false 30003) (T := (Rg1 p e q o hk h).T) (T' := TO p e.nx) mixed hNo (C := cvg1z) (ex := .normal) hb (show 30000 ≤ 30002 by decide) (rl := [(30001, 30003)]) rfl (by rfl) (ipG (Go.X.ipZ (ipE (ipK' ipNil (e := by show ((e.l ++ e.b).length : Int) = 2; rw [h0, b1 h]; rfl))) (e := by show ((e.i + outS e.f e.n e.i : Nat) : Int) = ((e.i + 1 : Nat) : Int); rw [st1 h]))) (vpRow (n := (e.l ++ e.b).length) (K := .u8) (f := bt (e.l ++ e.b)) vpNil (by rw [h0, b1 h]; rfl) (by rw [h0, b1 h]; show (2 : Nat) < 1000000; decide) rfl rfl (fun m hm => by
    rw [h0, List.nil_append, ← (src1 h).len] at hm
    obtain ⟨v, v1, v2⟩ := (src1 h).at_ m hm
    refine ⟨v, v1, v2.trans ?_⟩
    rw [h0]; rfl)) (glO (p := p)) (gg1z p e q o hk h) (St.same (Rw.same _ _) s)
theorem rdg2n (hb : Base B μ 30000) (q : Fqg p e) (o : OF e) (hk : e.i < e.n) (h : OK e 2) (s : Sg p e false B w0 μ a w) : lg.wp Tryz.prog (fun x a' w' => x = .normal ∧ Sg p e.nx false B w0 μ a' w') a w :=
  runTo_sound (fs := fsg false) (bs := bsg false 30003) (T := (Rg2 p e q o hk h).T) (T' := TO p e.nx) mixed hNo (C := cvg2n) (ex := .normal) hb (show 30000 ≤ 30002 by decide) (rl := [(30001, 30003)]) rfl (by rfl) (ipG (Go.X.ipZ (ipE (ipE ipNil)) (e := by show ((e.i + outS e.f e.n e.i : Nat) : Int) = ((e.i + 1 : Nat) : Int); rw [st2 h]))) (vpNum (n := (e.l ++ e.b).length) (e := bt (e.l ++ e.b)) (e' := bt (e.l ++ e.b)) vpNil) (glO (p := p)) (gg2n p e q o hk h) (St.same (Rw.same _ _) s)
theorem rdg2z (hb : Base B μ 30000) (q : Fqg p e) (o : OF e) (hk : e.i < e.n) (h : OK e 2) (h0 : e.l = []) (s : Sg p e true B w0 μ a w) : lg.wp Tryz.prog (fun x a' w' => x = .normal ∧ Sg p e.nx false B w0 μ a' w') a w :=
  runTo_sound (fs := fsg false) (bs := bsg false 30003) (T := (Rg2 p e q o hk h).T) (T' := TO p e.nx) mixed hNo (C := cvg2z) (ex := .normal) hb (show 30000 ≤ 30002 by decide) (rl := [(30001, 30003)]) rfl (by rfl) (ipG (Go.X.ipZ (ipE (ipK' ipNil (e := by show ((e.l ++ e.b).length : Int) = 3; rw [h0, b2 h]; rfl))) (e := by show ((e.i + outS e.f e.n e.i : Nat) : Int) = ((e.i + 1 : Nat) : Int); rw [st2 h]))) (vpRow (n := (e.l ++ e.b).length) (K := .u8) (f := bt (e.l ++ e.b)) vpNil (by rw [h0, b2 h]; rfl) (by rw [h0, b2 h]; show (3 : Nat) < 1000000; decide) rfl rfl (fun m hm => by
    rw [h0, List.nil_append, ← (src2 h).len] at hm
    obtain ⟨v, v1, v2⟩ := (src2 h).at_ m hm
    refine ⟨v, v1, v2.trans ?_⟩
    rw [h0]; rfl)) (glO (p := p)) (gg2z p e q o hk h) (St.same (Rw.same _ _) s)
theorem rdg3n (hb : Base B μ 30000) (q : Fqg p e) (o : OF e) (hk : e.i < e.n) (h : OK e 3) (s : Sg p e false B w0 μ a w) : lg.wp Tryz.prog (fun x a' w' => x = .normal ∧ Sg p e.nx false B w0 μ a' w') a w :=
  runTo_sound (fs := fsg false) (bs := bsg false 30003) (T := (Rg3 p e q o hk h).T) (T' := TO p e.nx) mixed hNo (C := cvg3n) (ex := .normal) hb (show 30000 ≤ 30002 by decide) (rl := [(30001, 30003)]) rfl (by rfl) (ipG (Go.X.ipZ (ipE (ipE ipNil)) (e := by show ((e.i + outS e.f e.n e.i : Nat) : Int) = ((e.i + 1 : Nat) : Int); rw [st3 h]))) (vpNum (n := (e.l ++ e.b).length) (e := bt (e.l ++ e.b)) (e' := bt (e.l ++ e.b)) vpNil) (glO (p := p)) (gg3n p e q o hk h) (St.same (Rw.same _ _) s)
theorem rdg3z (hb : Base B μ 30000) (q : Fqg p e) (o : OF e) (hk : e.i < e.n) (h : OK e 3) (h0 : e.l = []) (s : Sg p e true B w0 μ a w) : lg.wp Tryz.prog (fun x a' w' => x = .normal ∧ Sg p e.nx false B w0 μ a' w') a w :=
  runTo_sound (fs := fsg false) (bs := bsg false 30003) (T := (Rg3 p e q o hk h).T) (T' := TO p e.nx) mixed hNo (C := cvg3z) (ex := .normal) hb (show 30000 ≤ 30002 by decide) (rl := [(30001, 30003)]) rfl (by rfl) (ipG (Go.X.ipZ (ipE (ipK' ipNil (e := by show ((e.l ++ e.b).length : Int) = 3; rw [h0, b3 h]; rfl))) (e := by show ((e.i + outS e.f e.n e.i : Nat) : Int) = ((e.i + 1 : Nat) : Int); rw [st3 h]))) (vpRow (n := (e.l ++ e.b).length) (K := .u8) (f := bt (e.l ++ e.b)) vpNil (by rw [h0, b3 h]; rfl) (by rw [h0, b3 h]; show (3 : Nat) < 1000000; decide) rfl rfl (fun m hm => by
    rw [h0, List.nil_append, ← (src3 h).len] at hm
    obtain ⟨v, v1, v2⟩ := (src3 h).at_ m hm
    refine ⟨v, v1, v2.trans ?_⟩
    rw [h0]; rfl)) (glO (p := p)) (gg3z p e q o hk h) (St.same (Rw.same _ _) s)
theorem rdg4n (hb : Base B μ 30000) (q : Fqg p e) (o : OF e) (hk : e.i < e.n) (h : OK e 4) (s : Sg p e false B w0 μ a w) : lg.wp Tryz.prog (fun x a' w' => x = .normal ∧ Sg p e.nx false B w0 μ a' w') a w :=
  runTo_sound (fs := fsg false) (bs := bsg false 30003) (T := (Rg4 p e q o hk h).T) (T' := TO p e.nx) mixed hNo (C := cvg4n) (ex := .normal) hb (show 30000 ≤ 30002 by decide) (rl := [(30001, 30003)]) rfl (by rfl) (ipG (Go.X.ipZ (ipE (ipE ipNil)) (e := by show ((e.i + outS e.f e.n e.i : Nat) : Int) = ((e.i + 1 : Nat) : Int); rw [st4 h]))) (vpNum (n := (e.l ++ e.b).length) (e := bt (e.l ++ e.b)) (e' := bt (e.l ++ e.b)) vpNil) (glO (p := p)) (gg4n p e q o hk h) (St.same (Rw.same _ _) s)
theorem rdg4z (hb : Base B μ 30000) (q : Fqg p e) (o : OF e) (hk : e.i < e.n) (h : OK e 4) (h0 : e.l = []) (s : Sg p e true B w0 μ a w) : lg.wp Tryz.prog (fun x a' w' => x = .normal ∧ Sg p e.nx false B w0 μ a' w') a w :=
  runTo_sound (fs := fsg false) (bs := bsg false 30003) (T := (Rg4 p e q o hk h).T) (T' := TO p e.nx) mixed hNo (C := cvg4z) (ex := .normal) hb (show 30000 ≤ 30002 by decide) (rl := [(30001, 30003)]) rfl (by rfl) (ipG (Go.X.ipZ (ipE (ipK' ipNil (e := by show ((e.l ++ e.b).length : Int) = 1; rw [h0, b4 h]; rfl))) (e := by show ((e.i + outS e.f e.n e.i : Nat) : Int) = ((e.i + 1 : Nat) : Int); rw [st4 h]))) (vpRow (n := (e.l ++ e.b).length) (K := .u8) (f := bt (e.l ++ e.b)) vpNil (by rw [h0, b4 h]; rfl) (by rw [h0, b4 h]; show (1 : Nat) < 1000000; decide) rfl rfl (fun m hm => by
    rw [h0, List.nil_append, ← (src4 h).len] at hm
    obtain ⟨v, v1, v2⟩ := (src4 h).at_ m hm
    refine ⟨v, v1, v2.trans ?_⟩
    rw [h0]; rfl)) (glO (p := p)) (gg4z p e q o hk h) (St.same (Rw.same _ _) s)
theorem rdg5n (hb : Base B μ 30000) (q : Fqg p e) (o : OF e) (hk : e.i < e.n) (h : OK e 5) (s : Sg p e false B w0 μ a w) : lg.wp Tryz.prog (fun x a' w' => x = .normal ∧ Sg p e.nx false B w0 μ a' w') a w :=
  runTo_sound (fs := fsg false) (bs := bsg false 30003) (T := (Rg5 p e q o hk h).T) (T' := TO p e.nx) mixed hNo (C := cvg5n) (ex := .normal) hb (show 30000 ≤ 30002 by decide) (rl := [(30001, 30003)]) rfl (by rfl) (ipG (Go.X.ipZ (ipE (ipE ipNil)) (e := by show ((e.i + outS e.f e.n e.i : Nat) : Int) = ((e.i + 1 : Nat) : Int); rw [st5 h]))) (vpNum (n := (e.l ++ e.b).length) (e := bt (e.l ++ e.b)) (e' := bt (e.l ++ e.b)) vpNil) (glO (p := p)) (gg5n p e q o hk h) (St.same (Rw.same _ _) s)
theorem rdg5z (hb : Base B μ 30000) (q : Fqg p e) (o : OF e) (hk : e.i < e.n) (h : OK e 5) (h0 : e.l = []) (s : Sg p e true B w0 μ a w) : lg.wp Tryz.prog (fun x a' w' => x = .normal ∧ Sg p e.nx false B w0 μ a' w') a w :=
  runTo_sound (fs := fsg false) (bs := bsg false 30003) (T := (Rg5 p e q o hk h).T) (T' := TO p e.nx) mixed hNo (C := cvg5z) (ex := .normal) hb (show 30000 ≤ 30002 by decide) (rl := [(30001, 30003)]) rfl (by rfl) (ipG (Go.X.ipZ (ipE (ipK' ipNil (e := by show ((e.l ++ e.b).length : Int) = 1; rw [h0, b5 h]; rfl))) (e := by show ((e.i + outS e.f e.n e.i : Nat) : Int) = ((e.i + 1 : Nat) : Int); rw [st5 h]))) (vpRow (n := (e.l ++ e.b).length) (K := .u8) (f := bt (e.l ++ e.b)) vpNil (by rw [h0, b5 h]; rfl) (by rw [h0, b5 h]; show (1 : Nat) < 1000000; decide) rfl rfl (fun m hm => by
    rw [h0, List.nil_append, ← (src5 h).len] at hm
    obtain ⟨v, v1, v2⟩ := (src5 h).at_ m hm
    refine ⟨v, v1, v2.trans ?_⟩
    rw [h0]; rfl)) (glO (p := p)) (gg5z p e q o hk h) (St.same (Rw.same _ _) s)
theorem rdg6n (hb : Base B μ 30000) (q : Fqg p e) (o : OF e) (hk : e.i < e.n) (h : OK e 6) (s : Sg p e false B w0 μ a w) : lg.wp Tryz.prog (fun x a' w' => x = .normal ∧ Sg p e.nx false B w0 μ a' w') a w :=
  runTo_sound (fs := fsg false) (bs := bsg false 30003) (T := (Rg6 p e q o hk h).T) (T' := TO p e.nx) mixed hNo (C := cvg6n) (ex := .normal) hb (show 30000 ≤ 30002 by decide) (rl := [(30001, 30003)]) rfl (by rfl) (ipG (Go.X.ipZ (ipE (ipE ipNil)) (e := by show ((e.i + outS e.f e.n e.i : Nat) : Int) = ((e.i + 1 : Nat) : Int); rw [st6 h]))) (vpNum (n := (e.l ++ e.b).length) (e := bt (e.l ++ e.b)) (e' := bt (e.l ++ e.b)) vpNil) (glO (p := p)) (gg6n p e q o hk h) (St.same (Rw.same _ _) s)
theorem rdg6z (hb : Base B μ 30000) (q : Fqg p e) (o : OF e) (hk : e.i < e.n) (h : OK e 6) (h0 : e.l = []) (s : Sg p e true B w0 μ a w) : lg.wp Tryz.prog (fun x a' w' => x = .normal ∧ Sg p e.nx false B w0 μ a' w') a w :=
  runTo_sound (fs := fsg false) (bs := bsg false 30003) (T := (Rg6 p e q o hk h).T) (T' := TO p e.nx) mixed hNo (C := cvg6z) (ex := .normal) hb (show 30000 ≤ 30002 by decide) (rl := [(30001, 30003)]) rfl (by rfl) (ipG (Go.X.ipZ (ipE (ipK' ipNil (e := by show ((e.l ++ e.b).length : Int) = 1; rw [h0, b6 h]; rfl))) (e := by show ((e.i + outS e.f e.n e.i : Nat) : Int) = ((e.i + 1 : Nat) : Int); rw [st6 h]))) (vpRow (n := (e.l ++ e.b).length) (K := .u8) (f := bt (e.l ++ e.b)) vpNil (by rw [h0, b6 h]; rfl) (by rw [h0, b6 h]; show (1 : Nat) < 1000000; decide) rfl rfl (fun m hm => by
    rw [h0, List.nil_append, ← (src6 h).len] at hm
    obtain ⟨v, v1, v2⟩ := (src6 h).at_ m hm
    refine ⟨v, v1, v2.trans ?_⟩
    rw [h0]; rfl)) (glO (p := p)) (gg6z p e q o hk h) (St.same (Rw.same _ _) s)
theorem rdg7n (hb : Base B μ 30000) (q : Fqg p e) (o : OF e) (hk : e.i < e.n) (h : OK e 7) (s : Sg p e false B w0 μ a w) : lg.wp Tryz.prog (fun x a' w' => x = .normal ∧ Sg p e.nx false B w0 μ a' w') a w :=
  runTo_sound (fs := fsg false) (bs := bsg false 30003) (T := (Rg7 p e q o hk h).T) (T' := TO p e.nx) mixed hNo (C := cvg7n) (ex := .normal) hb (show 30000 ≤ 30002 by decide) (rl := [(30001, 30003)]) rfl (by rfl) (ipG (Go.X.ipZ (ipE (ipE ipNil)) (e := by show ((e.i + outS e.f e.n e.i : Nat) : Int) = ((e.i + 2 : Nat) : Int); rw [st7 h]))) (vpNum (n := (e.l ++ e.b).length) (e := bt (e.l ++ e.b)) (e' := bt (e.l ++ e.b)) vpNil) (glO (p := p)) (gg7n p e q o hk h) (St.same (Rw.same _ _) s)
theorem rdg7z (hb : Base B μ 30000) (q : Fqg p e) (o : OF e) (hk : e.i < e.n) (h : OK e 7) (h0 : e.l = []) (s : Sg p e true B w0 μ a w) : lg.wp Tryz.prog (fun x a' w' => x = .normal ∧ Sg p e.nx false B w0 μ a' w') a w :=
  runTo_sound (fs := fsg false) (bs := bsg false 30003) (T := (Rg7 p e q o hk h).T) (T' := TO p e.nx) mixed hNo (C := cvg7z) (ex := .normal) hb (show 30000 ≤ 30002 by decide) (rl := [(30001, 30003)]) rfl (by rfl) (ipG (Go.X.ipZ (ipE (ipK' ipNil (e := by show ((e.l ++ e.b).length : Int) = 4; rw [h0, b7 h]; rfl))) (e := by show ((e.i + outS e.f e.n e.i : Nat) : Int) = ((e.i + 2 : Nat) : Int); rw [st7 h]))) (vpRow (n := (e.l ++ e.b).length) (K := .u8) (f := bt (e.l ++ e.b)) vpNil (by rw [h0, b7 h]; rfl) (by rw [h0, b7 h]; show (4 : Nat) < 1000000; decide) rfl rfl (fun m hm => by
    rw [h0, List.nil_append, ← (src7 h).len] at hm
    obtain ⟨v, v1, v2⟩ := (src7 h).at_ m hm
    refine ⟨v, v1, v2.trans ?_⟩
    rw [h0]; rfl)) (glO (p := p)) (gg7z p e q o hk h) (St.same (Rw.same _ _) s)
theorem rdg8n (hb : Base B μ 30000) (q : Fqg p e) (o : OF e) (hk : e.i < e.n) (h : OK e 8) (s : Sg p e false B w0 μ a w) : lg.wp Tryz.prog (fun x a' w' => x = .normal ∧ Sg p e.nx false B w0 μ a' w') a w :=
  runTo_sound (fs := fsg false) (bs := bsg false 30003) (T := (Rg8 p e q o hk h).T) (T' := TO p e.nx) mixed hNo (C := cvg8n) (ex := .normal) hb (show 30000 ≤ 30002 by decide) (rl := [(30001, 30003)]) rfl (by rfl) (ipG (Go.X.ipZ (ipE (ipE ipNil)) (e := by show ((e.i + outS e.f e.n e.i : Nat) : Int) = ((e.i + 1 : Nat) : Int); rw [st8 h]))) (vpNum (n := (e.l ++ e.b).length) (e := bt (e.l ++ e.b)) (e' := bt (e.l ++ e.b)) vpNil) (glO (p := p)) (gg8n p e q o hk h) (St.same (Rw.same _ _) s)
theorem rdg8z (hb : Base B μ 30000) (q : Fqg p e) (o : OF e) (hk : e.i < e.n) (h : OK e 8) (h0 : e.l = []) (s : Sg p e true B w0 μ a w) : lg.wp Tryz.prog (fun x a' w' => x = .normal ∧ Sg p e.nx false B w0 μ a' w') a w :=
  runTo_sound (fs := fsg false) (bs := bsg false 30003) (T := (Rg8 p e q o hk h).T) (T' := TO p e.nx) mixed hNo (C := cvg8z) (ex := .normal) hb (show 30000 ≤ 30002 by decide) (rl := [(30001, 30003)]) rfl (by rfl) (ipG (Go.X.ipZ (ipE (ipK' ipNil (e := by show ((e.l ++ e.b).length : Int) = 1; rw [h0, b8 h]; rfl))) (e := by show ((e.i + outS e.f e.n e.i : Nat) : Int) = ((e.i + 1 : Nat) : Int); rw [st8 h]))) (vpRow (n := (e.l ++ e.b).length) (K := .u8) (f := bt (e.l ++ e.b)) vpNil (by rw [h0, b8 h]; rfl) (by rw [h0, b8 h]; show (1 : Nat) < 1000000; decide) rfl rfl (fun m hm => by
    rw [h0, List.nil_append, ← (src8 h).len] at hm
    obtain ⟨v, v1, v2⟩ := (src8 h).at_ m hm
    refine ⟨v, v1, v2.trans ?_⟩
    rw [h0]; rfl)) (glO (p := p)) (gg8z p e q o hk h) (St.same (Rw.same _ _) s)
theorem rndgn (hb : Base B μ 30000) (q : Fqg p e) (o : OF e) (hk : e.i < e.n) (s : Sg p e false B w0 μ a w) : lg.wp Tryz.prog (fun x a' w' => x = .normal ∧ Sg p e.nx false B w0 μ a' w') a w := by
  obtain ⟨k, hk9, h⟩ := OK_ex e o
  match k, hk9, h with
  | 0, _, h => exact rdg0n hb q o hk h s
  | 1, _, h => exact rdg1n hb q o hk h s
  | 2, _, h => exact rdg2n hb q o hk h s
  | 3, _, h => exact rdg3n hb q o hk h s
  | 4, _, h => exact rdg4n hb q o hk h s
  | 5, _, h => exact rdg5n hb q o hk h s
  | 6, _, h => exact rdg6n hb q o hk h s
  | 7, _, h => exact rdg7n hb q o hk h s
  | 8, _, h => exact rdg8n hb q o hk h s
  | _ + 9, h9, _ => omega
theorem rndgz (hb : Base B μ 30000) (q : Fqg p e) (o : OF e) (hk : e.i < e.n) (h0 : e.l = []) (s : Sg p e true B w0 μ a w) : lg.wp Tryz.prog (fun x a' w' => x = .normal ∧ Sg p e.nx false B w0 μ a' w') a w := by
  obtain ⟨k, hk9, h⟩ := OK_ex e o
  match k, hk9, h with
  | 0, _, h => exact rdg0z hb q o hk h h0 s
  | 1, _, h => exact rdg1z hb q o hk h h0 s
  | 2, _, h => exact rdg2z hb q o hk h h0 s
  | 3, _, h => exact rdg3z hb q o hk h h0 s
  | 4, _, h => exact rdg4z hb q o hk h h0 s
  | 5, _, h => exact rdg5z hb q o hk h h0 s
  | 6, _, h => exact rdg6z hb q o hk h h0 s
  | 7, _, h => exact rdg7z hb q o hk h h0 s
  | 8, _, h => exact rdg8z hb q o hk h h0 s
  | _ + 9, h9, _ => omega
abbrev REg (p : Pm) (e : Oe) (hk : ¬ e.i < e.n) : Rw (ivO e) (vvO e) (vkO e) (fgO p) (txO e) where
  vvp := vvOp e
  ib := [(11, .oi 0, .oi 2, .bool false)]
  ibok := by as_aux_lemma => exact rLtK ibNil
noncomputable abbrev cvEg : Cv := ⟨30000, 30002, ofPairs [(30001, 30001)], [(.fo 1 2 1, 1), (.oi 0, 0), (.oi 2, 2), (.oi 3, 3)]⟩
theorem gEg : ∀ p e hk, runTo (REg p e hk).T Tryz.prog Hand.none 3000 Tryz.f18.ntmps lg (frOf (fsg false)) (hOf 30002 (bsg false 30001)) (.exit 0) cvEg [(30001, .vec 1, 1)] (fsg false) (bsg false 30001) = true := fun p e hk => by as_aux_lemma => kernel_rfl
theorem exg (hb : Base B μ 30000) (hk : ¬ e.i < e.n) (s : Sg p e false B w0 μ a w) : lg.wp Tryz.prog (fun x a' w' => x = .exit 0 ∧ Sg p e false B w0 μ a' w') a w :=
  runTo_sound (fs := fsg false) (bs := bsg false 30001) (T := (REg p e hk).T) (T' := TO p e) mixed hNo (C := cvEg) (ex := .exit 0) hb (show 30000 ≤ 30002 by decide) (rl := [(30001, 30001)]) rfl (by rfl) (ipG (ipE (ipE (ipE ipNil)))) (vpNum (n := e.l.length) (e := bt e.l) (e' := bt e.l) vpNil) (glO (p := p)) (gEg p e hk) (St.same (Rw.same _ _) s)
theorem rsg (hb : Base B μ 30000) : ∀ (j : Nat) (e : Oe) (a : Act) (w : World), e.n - e.i < j → Fqg p e → OF e → Sg p e false B w0 μ a w → Code.rounds Tryz.prog lg (fun x a w => x = .exit 0 ∧ ∃ e', Fqg p e' ∧ e'.n = e.n ∧ e'.l = outL e.f e.n j e.i e.l ∧ Sg p e' false B w0 μ a w) j a w
  | 0, e, a, w, h1, q, o, s => by omega
  | j + 1, e, a, w, h1, q, o, s => by
    by_cases hk : e.i < e.n
    · refine rounds_of (wp_mono (rndgn hb q o hk s) ?_)
      rintro x a' w' ⟨rfl, s'⟩
      have h2 := outS_le (f := e.f) hk
      have h := rsg hb j e.nx a' w' (by show e.n - (e.i + outS e.f e.n e.i) < j; omega) ⟨q.n, q.f⟩ (o.nx hk) s'
      have e1 : outL e.f e.n (j + 1) e.i e.l = outL e.nx.f e.nx.n j e.nx.i e.nx.l := if_pos hk
      rw [e1]; exact h
    · refine rounds_of (wp_mono (exg hb hk s) ?_)
      rintro x a' w' ⟨rfl, s'⟩
      have e1 : outL e.f e.n (j + 1) e.i e.l = e.l := if_neg hk
      rw [e1]
      exact ⟨rfl, e, q, rfl, rfl, s'⟩
end
def e0g (p : Pm) : Oe := ⟨p.la, 0, p.A, []⟩
noncomputable abbrev fsSg : List (Nat × AV) := [(0, .fo 1 2 1), (3, .nils)]
noncomputable def ing (N : Nat) : In := ⟨18, [.fo 1 0 1], N, [], .ov N 21 1, Nat.add N 40, (N, .vec 6) :: []⟩
noncomputable abbrev cvSg : Cv := ⟨30000, 30002, ofPairs [], [(.fo 1 0 1, 1), (.oi 0, 2)]⟩
def GSg (N : Nat) : Prop := ∀ p, firstTo (TP p) Tryz.prog Hand.none 3000 Tryz.f18.ntmps 2 cg (T.ofList 0 .leaf [.fo 1 0 1]) (hIn N []) cvSg [] fsSg (bsg true 0) = true
noncomputable abbrev cvTg : Cv := ⟨30000, 30002, ofPairs [], [(.fo 1 2 1, 1), (.int .i64 0, 0), (.oi 2, 2)]⟩
theorem gtg : ∀ p e, runTo (TO p e) Tryz.prog Hand.none 3000 Tryz.f18.ntmps ig (frOf fsSg) (hOf 30002 (bsg true 0)) .normal cvTg [] (fsg true) (bsg true 0) = true := fun p e => by as_aux_lemma => kernel_rfl
noncomputable def cvFg (N : Nat) : Cv := ⟨N, Nat.add N 40, ofPairs [(N, 30001)], [(.oi 2, 0), (.oi 3, 21)]⟩
noncomputable def bsFg (N : Nat) : BS := (N, 30001, .vec 6) :: []
def GFg (N : Nat) : Prop := ∀ p e, runTo (TO p e) Tryz.prog Hand.none 3000 Tryz.f18.ntmps (restn 3 cg) (frOf (fsg false)) (hOf 30002 (bsg false 30001)) .ret (cvFg N) [(30001, .vec 1, 6)] [(2, .ov N 21 1)] (bsFg N) = true
theorem outg_ok {p : Pm} {N : Nat} (h : Ar p) (bt' : Bt p) (h0 : 0 < p.la) (gs : GSg N) (gf : GFg N) (hN : N ≤ 30000) (l : okLim (ing N).bs' = true) (hl : hasAll (hOf (Nat.add N 40) (bsFg N)) (ing N).bs' = true) (rk : okRn (cvFg N) [(N, 30001)] = true)
    (hr : results? Tryz.prog Tryz.f18 (frOf [(2, .ov N 21 1)]) (hOf (Nat.add N 40) (bsFg N)) = some (.ov N 21 1)) : @InOk Tryz.prog (ing N) (TP p) := by
  letI : Tab := TP p
  refine ⟨l, hOf (Nat.add N 40) (bsFg N), ?_, hOf_next'.symm, hl⟩
  refine callOk_of (fn := Tryz.f18) Tryz.func18 cg_eq (show 1 ≤ Tryz.f18.ntmps by decide +kernel) (show 1 < limit by decide) fun B w0 μ a0 w hb s => ?_
  have hb : Base B μ N := by
    have h := hb
    rw [show (hIn (ing N).N (ing N).bs).next = N from hIn_next] at h
    exact h
  have hbU : Base B μ 30000 := baseUp hb hN
  have g0 := St.gl s
  have q0 : Fqg p (e0g p) := ⟨rfl, rfl⟩
  have o0 : OF (e0g p) := ⟨h.a60, fun m => (h.hA m).1, fun m => (h.hA m).2, Nat.le_refl _, Nat.zero_le _⟩
  refine firstTo_sound (T := TP p) (T' := TO p (e0g p)) (n := 2) mixed hNo (C := cvSg) (rl := []) (fs := fsSg) (bs := bsg true 0)
    hbU (show 30000 ≤ 30002 by decide) rfl rfl (ipG (ipE ipNil)) (vpNil) (fun _ => glPO g0) (gs p) s fun a1 w1 s1 => ?_
  rw [c2g_eq]
  refine wp_seq (wp_seq (wp_mono (runTo_sound (fs := fsg true) (bs := bsg true 0) (T := TO p (e0g p)) (T' := TO p (e0g p)) mixed hNo (C := cvTg) (ex := .normal) hbU (show 30000 ≤ 30002 by decide) (rl := []) rfl rfl (ipG (ipK' (ipE ipNil) (e := rfl))) (vpNil) (glO (p := p)) (gtg p (e0g p)) s1) ?_))
  rintro x a2 w2 ⟨rfl, s2⟩
  have s2 : Sg p (e0g p) true B w0 μ a2 w2 := s2
  show (Code.block 0 (.loop lg)).wp _ _ _ _
  have hs := outS_le (f := p.A) (n := p.la) (i := 0) h0
  have main : Code.rounds Tryz.prog lg (fun x a w => x = .exit 0 ∧ ∃ e', Fqg p e' ∧ e'.n = p.la ∧ e'.l = fin p ∧ Sg p e' false B w0 μ a w) (p.la + 1) a2 w2 := by
    refine rounds_of (wp_mono (rndgz (e := e0g p) hbU q0 o0 h0 rfl s2) ?_)
    rintro x a' w' ⟨rfl, s'⟩
    have hh := rsg hbU p.la (e0g p).nx a' w' (by show p.la - (0 + outS p.A p.la 0) < p.la; omega) ⟨rfl, rfl⟩ (o0.nx h0) s'
    have e1 : fin p = outL (e0g p).nx.f (e0g p).nx.n p.la (e0g p).nx.i (e0g p).nx.l := if_pos h0
    rw [e1]; exact hh
  refine wp_block (wp_mono (wp_loop_rounds (p.la + 1) main) ?_)
  rintro x a3 w3 ⟨rfl, e', q', n', l', s3⟩
  show (restn 3 cg).wp _ _ _ _
  refine wp_mono (runTo_sound (fs := [(2, .ov N 21 1)]) (bs := bsFg N) (T := TO p e') (T' := TP p) mixed hNo (C := cvFg N) (ex := .ret) hb (Nat.le_add_right N 40) (rl := [(N, 30001)]) rfl rk (Go.X.ipZ (Go.X.ipZ ipNil (e := by show (p.lb : Int) = (e'.l.length : Int); rw [l', bt'.lb])) (e := by show (p.la : Int) = (e'.n : Int); rw [n'])) (vpNum (n := p.lb) (K := .u8) (e := bt (fin p)) (e' := p.E) vpNil (by show numV .u8 e'.l.length (bt e'.l) = _; rw [l', bt'.lb]) rfl (by show e'.l.length = _; rw [l', bt'.lb]) rfl (fun m _ => by rw [bt'.E])) (fun _ => g0) (gf p e') s3) ?_
  rintro x a4 w4 ⟨rfl, s4⟩
  exact St.done (τ := TP p) (e := .ret) (.inr rfl) hr s4
end Go.Proofs.YtkkaifeiopjjdaaGreatDoor.np
