/-
  The law NativeString: the loop that reads a text's chars.
-/
import Derived.Test.YtkkaifeiopjjdaaGreatDoorNSA
set_option linter.unusedVariables false
set_option linter.unusedSimpArgs false
set_option linter.unusedSectionVars false
set_option maxRecDepth 1000000
set_option maxHeartbeats 0
namespace Go.Proofs.YtkkaifeiopjjdaaGreatDoor.ns
open Go.X Go.RowKit Go.Proofs
noncomputable def cC : Code := codeOf Tryz.f13
theorem cC_eq : Tryz.f13.body = some cC := by kernel_rfl
noncomputable def cI : Code := hd (hd (restn 3 cC))
noncomputable def cL : Code := lpIn (tl (hd (restn 3 cC)))
theorem c3_eq : restn 3 cC = .seq (.seq cI (.block 0 (.loop cL))) (restn 4 cC) := by kernel_rfl
/-- the heap's blocks: which are there at a stage (1, 2, 3 texts) -/
noncomputable def nW (st : Nat) : Nat := Nat.rec 13260 (fun k _ => Nat.rec 13290 (fun _ _ => 13470) k) st
noncomputable def nS (st : Nat) : Nat := Nat.rec 13261 (fun k _ => Nat.rec 13291 (fun _ _ => 13471) k) st
noncomputable def stL (st : Nat) : List AV := Nat.rec [.int .i64 0] (fun k _ => Nat.rec [.int .i64 0, .oi 4] (fun _ _ => [.int .i64 0, .oi 4, .oi 5]) k) st
/-- the name of how many words there are -/
noncomputable def lw (st : Nat) : Nat := Nat.rec 4 (fun k _ => Nat.rec 5 (fun _ _ => 6) k) st
noncomputable abbrev bJ (st j : Nat) : BL := [(9899, .cells 5 false [] (T.ofList 0 .leaf [.ptr 6646 0, .ov (nW st) j 1, .so (nS st) 0 (Nat.succ st) 1, .so 13256 0 1 3, .map 9898])), (13256, .cells 3 true [] (T.ofList 0 .leaf [.str 16 137483774941304901841256615957136564586, .nils, .int .u8 67])), (nW st, .vec st), (nS st, .cells (Nat.succ st) true [] (T.ofList 0 .leaf (stL st)))]
noncomputable abbrev bH (st : Nat) : BL := bJ st 54
noncomputable abbrev bL (st : Nat) : BL := bJ st (lw st)
noncomputable def same : BL → BS := List.rec [] fun p _ ih => (p.1, p.1, p.2) :: ih
noncomputable abbrev fsC : List (Nat × AV) := [(0, .ptr 9899 0), (1, .oi 43), (5, .ov 20001 42 1), (18, .oi 42), (19, .oi 40)]
noncomputable abbrev bsC (st : Nat) (v : Nat) : BS := (20001, 20001, .vec v) :: same (bH st)
section
variable (p : Pm) (q : Lq) (st : Nat)
/-- what is known within the loop -/
structure CF : Prop where
  hn : q.n ≤ 120
  ht : tS p st ≤ 300
  hs : q.s + wd q.n ≤ tS p st
  hf : ∀ k, k < q.n → IntKind.u16.wrap (wI (WS p st (q.s + 3 + k / 4) >>> (k % 4 * 2 * 8))) = q.f k
end
theorem wd_k {n k : Nat} (h : k < n) : 3 + k / 4 < wd n := by unfold wd; omega
theorem upTo_eq {f : Nat → Int} {k m : Nat} (h : m < k) : upTo f k m = f m := if_pos h
theorem upTo_ne {f : Nat → Int} {k m : Nat} (h : m ≠ k) : upTo f (k + 1) m = upTo f k m := by
  unfold upTo
  by_cases c : m < k
  · rw [if_pos c, if_pos (by omega)]
  · rw [if_neg c, if_neg (by omega)]
abbrev RC (p : Pm) (q : Lq) (st : Nat) (c : CF p q st) (hk : q.k < q.n) (hst : st < 3) : Rw (ivL p q st) (vvL p q) (vkL p q) (fgL p) (txL p q st) where
  vvp := vvLp p q
  ib := [(11, .oi 40, .oi 42, .bool true), (3, .oi 40, .int .i64 4, .oi 44), (1, .oi 43, .int .i64 1, .oi 45), (0, .oi 45, .int .i64 3, .oi 46), (0, .oi 46, .oi 44, .oi 47), (4, .oi 40, .int .i64 4, .oi 48), (2, .oi 48, .int .i64 2, .oi 49), (2, .oi 49, .int .i64 8, .oi 50), (16, .oi 51, .oi 50, .oi 52), (0, .oi 40, .int .i64 1, .oi 41), (11, .oi 47, .oi 54, .bool true), (14, .oi 47, .int .i64 0, .bool true), (14, .oi 40, .int .i64 0, .bool true)]
  ibok := by
    have h1 := c.hn; have h2 := c.ht; have h3 := c.hs; have h4 := wd_k hk
    as_aux_lemma => exact (rLt (rQuo (rSub (rAdd (rAdd (rRem (rMul (rMul (rShr (rAdd (rLt (rGe (rGe ibNil)))))))))))))
  ic := [(.u16, .oi 52, .oi 53)]
  icok := by
    have h1 := c.hf _ hk
    as_aux_lemma => exact (rConv icNil)
  vl := [⟨st, 47, 1, 0, [.oi 51]⟩]
  vlok := by
    have h1 := c.hn; have h2 := c.ht; have h3 := c.hs; have h4 := wd_k hk
    as_aux_lemma => exact lN allNil (hv := vS_eq p q st hst)
  vs := [⟨12, 40, 1, 0, [.oi 53], 13⟩]
  vsok := by
    as_aux_lemma => exact sN allNil (hy := congrArg some (congrArg (Prod.mk _) (upTo_eq (Nat.lt_succ_self _)).symm)) (hw := fun m _ h => upTo_ne h)
noncomputable abbrev cvL (st : Nat) : Cv := ⟨20000, 20002, ofPairs ((20001, 20001) :: []), [(.oi 41, 40), (.oi 42, 42), (.oi 43, 43), (.oi 4, 4), (.oi 5, 5), (.oi 6, 6), (.oi 54, 54)]⟩
def GC (st : Nat) : Prop := ∀ p q c hk h, runTo (RC p q st c hk h).T Tryz.prog Hand.none 3000 Tryz.f13.ntmps cL (frOf fsC) (hOf 20002 (bsC st 12)) .normal (cvL st) [(20001, .vec 13, 12), (nW st, .vec st, st)] fsC (bsC st 12) = true
theorem gc1 : GC 1 := fun p q c hk h => by as_aux_lemma => kernel_rfl
theorem gc2 : GC 2 := fun p q c hk h => by as_aux_lemma => kernel_rfl
/-- tables of this law that differ in the loop's numbers alone -/
theorem glL {p : Pm} {q q' : Lq} {st st' : Nat} {T T' : Tab} {B : Kp} {w0 : World} (h1 : T.fb = (fgL p).fb := by exact rfl) (h2 : T.fv = (fgL p).fv := by exact rfl) (h3 : T'.fb = (fgL p).fb := by exact rfl) (h4 : T'.fv = (fgL p).fv := by exact rfl) (h5 : T'.gv = fun _ _ => none := by exact rfl) : @Gl T B w0 → @Gl T' B w0 :=
  glF h5 (h1.trans h3.symm) (h2.trans h4.symm) fun i m a h => by
    rw [h4] at h
    match i, h with
    | 0, h => obtain ⟨_, e⟩ := numV_some h; exact ⟨_, _, e⟩
    | 1, h => obtain ⟨_, e⟩ := numV_some h; exact ⟨_, _, e⟩
    | (i + 2), h => cases h
theorem vpSt {p : Pm} {q q' : Lq} {st : Nat} (hst : st < 3) {T T' : Tab} {C : Cv} {l : VP} {x : Nat} (k : VpOk T T' C l) (h1 : T.vv = vvL p q := by exact rfl) (h2 : T'.vv = vvL p q' := by exact rfl) (h3 : T.vk = vkL p q := by exact rfl) (h4 : T'.vk = vkL p q' := by exact rfl) : VpOk T T' C ((x, .vec st, st) :: l) :=
  vpCons (vecSubN (fun m a h => by
    rw [h2, vS_eq p q' st hst] at h
    rw [h1, vS_eq p q st hst]
    exact numSame _ _ _ m a h) (by rw [h3, h4, vkS_eq p q st hst, vkS_eq p q' st hst]; exact Nat.le_refl _)) k
theorem vpNum {T T' : Tab} {C : Cv} {l : VP} {x i i' n : Nat} {K : IntKind} {e e' : Nat → Int} (k : VpOk T T' C l) (h1 : T.vv i = numV K n e := by exact rfl) (h2 : T'.vv i' = numV K n e' := by exact rfl) (h3 : T.vk i = n := by exact rfl) (h4 : T'.vk i' = n := by exact rfl) (he : ∀ m, m < n → e' m = e m := by first | assumption | exact fun _ _ => rfl) : VpOk T T' C ((x, .vec i, i') :: l) :=
  vpCons (vecSubN (fun m a h => by
    rw [h2] at h
    rw [h1]
    exact numSub he m a h) (by rw [h3, h4]; exact Nat.le_refl _)) k
theorem hNo {T : Tab} : @HandOk T Tryz.prog Hand.none := @HandOk.none T Tryz.prog
def SC (p : Pm) (q : Lq) (st : Nat) (B : Kp) (w0 : World) (μ : M) (a : Act) (w : World) : Prop := St (T0 p q st) B w0 μ Tryz.f13.ntmps (frOf fsC) (hOf 20002 (bsC st 12)) a w
section
variable {p : Pm} {q : Lq} {st : Nat} {B : Kp} {w0 : World} {μ : M} {a : Act} {w : World}
theorem cRound (g : GC st) (hst : st < 3) (hb : Base B μ 20000) (c : CF p q st) (hk : q.k < q.n) (s : SC p q st B w0 μ a w) : cL.wp Tryz.prog (fun e a' w' => e = .normal ∧ SC p (q.at (q.k + 1)) st B w0 μ a' w') a w :=
  runTo_sound (T := (RC p q st c hk hst).T) (T' := T0 p (q.at (q.k + 1)) st) mixed hNo (C := cvL st) (ex := .normal) hb (show 20000 ≤ 20002 by decide) (rl := (20001, 20001) :: []) rfl (by kernel_rfl) (ipE (ipE (ipE (ipE (ipE (ipE (ipE ipNil))))))) (vpNum (vpSt hst vpNil)) (glL (q := q) (q' := q) (st := st) (st' := st)) (g p q c hk hst) (St.same (Rw.same _ _) s)
end
end Go.Proofs.YtkkaifeiopjjdaaGreatDoor.ns
