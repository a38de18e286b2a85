/-
  The law ProfileMerge: what Merge and Top give is compared: runs.
-/
import Derived.Test.YtnenjcehicaobaaPMG
import Derived.Test.YtnenjcehicaobaaPGJ
set_option linter.unusedVariables false
set_option linter.unusedSimpArgs false
set_option linter.unusedSectionVars false
set_option maxRecDepth 1000000
set_option maxHeartbeats 0
namespace Go.Proofs.Ytnenjcehicaobaa.pf
open Go.X Go.RowKit Go.Proofs
noncomputable def q7 : Code := hd (restn 7 qC)
theorem q7_eq : restn 7 qC = .seq q7 (restn 8 qC) := by kernel_rfl
noncomputable def q8 : Code := hd (restn 8 qC)
theorem q8_eq : restn 8 qC = .seq q8 (restn 9 qC) := by kernel_rfl
noncomputable def q9 : Code := hd (restn 9 qC)
theorem q9_eq : restn 9 qC = .seq q9 (restn 10 qC) := by kernel_rfl
noncomputable def q10a : Code := hd (hd (restn 10 qC))
noncomputable def q10L : Code := lpIn (tl (hd (restn 10 qC)))
theorem q10_eq : restn 10 qC = .seq (.seq q10a (.block 4 (.loop q10L))) (restn 11 qC) := by kernel_rfl
noncomputable abbrev fsXq : List (Nat × AV) := [(1, .oi 40), (5, .bool true), (6, .ov 19004 24 1), (7, .map 18001), (8, .oi 22)]
noncomputable abbrev bsXx (x y : Nat) : BS := [(18001, x, .omap 0), (19004, y, .vec 24)]
noncomputable abbrev rlX : List (Nat × Nat) := [(18001, 18002), (19004, 18003)]
noncomputable abbrev ipX : IP := [(.oi 24, 24), (.oi 40, 40), (.oi 12, 22), (.map 2, 0)]
noncomputable abbrev CX' : Cv := ⟨18000, 20000, ofPairs rlX, ipX⟩
theorem gqX {p : Lm} (t1 t2 : Bool) (h1 : decide (p.i < p.n) = t1) (h2 : decide (p.i < 6) = t2) (hx : (t1 && t2) = false) : runTo (Rc t1 t2 h1 h2).T Try.prog Hand.none 3000 ntQ q6L (frOf (fsO lsv)) (hOf 19000 (bsP bsl)) (.exit 0) CX' [(18003, .vec 24, 24)] fsXq (bsXx 18002 18003) = true := by
  cases t1 <;> cases t2 <;> first | (cases hx; done) | (as_aux_lemma => kernel_rfl)
noncomputable abbrev fsY (l : AV) : List (Nat × AV) := [(1, .oi 40), (5, .bool true), (7, .map 18001), (8, .oi 6), (13, l)]
noncomputable abbrev lv5 : AV := .ov 18005 30 2
noncomputable abbrev bsY0 : BS := [(18001, 18001, .omap 0)]
noncomputable abbrev bsY1 (x : Nat) : BS := [(18001, 18001, .omap 0), (18005, x, .vec 30)]
noncomputable abbrev CY (rl : List (Nat × Nat)) (ip : IP) : Cv := ⟨18000, 19000, ofPairs rl, ip⟩
theorem gMg0 (p : Pm) : runTo (T0 p) Try.prog (inHand moI0) 3000 ntQ q7 (frOf fsXq) (hOf 20000 (bsXx 18001 19004)) .normal (CY [(18001, 18001)] [(.oi 40, 40), (.oi 22, 6), (.map 0, 0)]) [] (fsY .nils) bsY0 = true := by as_aux_lemma => kernel_rfl
theorem gMg1 (p : Pm) : runTo (T0 p) Try.prog (inHand moI1) 3000 ntQ q7 (frOf fsXq) (hOf 20000 (bsXx 18001 19004)) .normal (CY [(18001, 18001), (18005, 20003)] [(.oi 30, 30), (.oi 40, 40), (.oi 22, 6), (.map 0, 0)]) [(20003, .vec 30, 30)] (fsY lv5) (bsY1 20003) = true := by as_aux_lemma => kernel_rfl
noncomputable abbrev fsW (l m : AV) : List (Nat × AV) := [(1, .oi 40), (5, .bool true), (8, .oi 6), (13, l), (14, m)]
noncomputable abbrev bsW : BS := [(18005, 18005, .vec 30), (20003, 20003, .vec 30)]
noncomputable abbrev rlW : List (Nat × Nat) := [(18005, 18005), (20003, 20003)]
noncomputable abbrev vW : VP := [(18005, .vec 30, 30), (20003, .vec 30, 30)]
noncomputable abbrev CW' (rl : List (Nat × Nat)) (ip : IP) : Cv := ⟨18000, 21000, ofPairs rl, ip⟩
section
variable {p : Lw}
theorem gTp0 (p : Lw) : runTo (L0 p) Try.prog (inHand tI0) 3000 ntQ q8 (frOf (fsY .nils)) (hOf 19000 bsY0) .normal (CW' [] [(.oi 40, 40), (.oi 6, 6)]) [] (fsW .nils .nils) [] = true := by as_aux_lemma => kernel_rfl
theorem gTp1 (p : Lw) : runTo (L0 p) Try.prog (inHand tI1) 3000 ntQ q8 (frOf (fsY lv5)) (hOf 19000 (bsY1 18005)) .normal (CW' rlW [(.oi 30, 30), (.oi 40, 40), (.oi 6, 6)]) vW (fsW lv5 lv) bsW = true := by as_aux_lemma => kernel_rfl
/- nothing came out -/
noncomputable abbrev RNa (hK : p.K ≤ 0) : Rl p where
  ib := [(11, .oi 6, .oi 40, .bool false), (11, .oi 40, .oi 6, .bool (decide (p.K < (p.k : Int)))), (13, .oi 40, .int .i64 0, .bool false)]
  ibok := rLt (a := (p.k : Int)) (b := p.K) (rLt (a := p.K) (b := (p.k : Int)) (h := rfl) (rGt (a := p.K) (b := 0) ibNil))
noncomputable abbrev RNb (hK : 0 < p.K) (hk : p.k = 0) : Rl p where
  ib := [(11, .oi 6, .oi 40, .bool true), (11, .oi 40, .oi 6, .bool false), (13, .oi 6, .int .i64 0, .bool false)]
  ibok := rLt (a := (p.k : Int)) (b := p.K) (rLt (a := p.K) (b := (p.k : Int)) (rGt (a := (p.k : Int)) (b := 0) ibNil))
theorem gNa (hK : p.K ≤ 0) : runTo (RNa hK).T Try.prog Hand.none 3000 ntQ (restn 9 qC) (frOf (fsW .nils .nils)) (hOf 21000 []) .ret (CW' [] []) [] [(4, .bool true)] [] = true := by as_aux_lemma => kernel_rfl
theorem gNb (hK : 0 < p.K) (hk : p.k = 0) : runTo (RNb hK hk).T Try.prog Hand.none 3000 ntQ (restn 9 qC) (frOf (fsW .nils .nils)) (hOf 21000 []) .ret (CW' [] []) [] [(4, .bool true)] [] = true := by as_aux_lemma => kernel_rfl
/- so many came out -/
noncomputable abbrev fsV : List (Nat × AV) := [(5, .bool true), (13, lv5), (14, lv)]
noncomputable abbrev RC1 (hk : 0 < p.k) (hK : 0 < p.K) (ho : p.o = p.k) (h : (p.k : Int) < p.K) : Rl p where
  ib := [(11, .oi 6, .oi 40, .bool true), (11, .oi 40, .oi 6, .bool false), (13, .oi 6, .int .i64 0, .bool true), (10, .oi 30, .oi 6, .bool false), (10, .oi 30, .oi 30, .bool false)]
  ibok := rLt (a := (p.k : Int)) (b := p.K) (rLt (a := p.K) (b := (p.k : Int)) (rGt (a := (p.k : Int)) (b := 0) (rNe (a := (p.o : Int)) (b := (p.k : Int)) (K := .i64) (rNe (a := (p.o : Int)) (b := (p.o : Int)) (K := .i64) ibNil (by exact rfl) (by exact rfl) (by simp)) (by exact rfl) (by exact rfl) (by simp [ho]))))
noncomputable abbrev RC2 (hk : 0 < p.k) (hK : 0 < p.K) (ho : (p.o : Int) = p.K) (h : ¬ (p.k : Int) < p.K) : Rl p where
  ib := [(11, .oi 6, .oi 40, .bool false), (11, .oi 40, .oi 6, .bool (decide (p.K < (p.k : Int)))), (13, .oi 40, .int .i64 0, .bool true), (10, .oi 30, .oi 40, .bool false), (10, .oi 30, .oi 30, .bool false)]
  ibok := rLt (a := (p.k : Int)) (b := p.K) (rLt (a := p.K) (b := (p.k : Int)) (h := rfl) (rGt (a := p.K) (b := 0) (rNe (a := (p.o : Int)) (b := p.K) (K := .i64) (rNe (a := (p.o : Int)) (b := (p.o : Int)) (K := .i64) ibNil (by exact rfl) (by exact rfl) (by simp)) (by exact rfl) (by exact rfl) (by simp [ho]))))
theorem gC1 (hk : 0 < p.k) (hK : 0 < p.K) (ho : p.o = p.k) (h : (p.k : Int) < p.K) : runTo (RC1 hk hK ho h).T Try.prog Hand.none 3000 ntQ q9 (frOf (fsW lv5 lv)) (hOf 21000 bsW) .normal (CW' rlW [(.oi 30, 30)]) vW fsV bsW = true := by as_aux_lemma => kernel_rfl
theorem gC2 (hk : 0 < p.k) (hK : 0 < p.K) (ho : (p.o : Int) = p.K) (h : ¬ (p.k : Int) < p.K) : runTo (RC2 hk hK ho h).T Try.prog Hand.none 3000 ntQ q9 (frOf (fsW lv5 lv)) (hOf 21000 bsW) .normal (CW' rlW [(.oi 30, 30)]) vW fsV bsW = true := by as_aux_lemma => kernel_rfl
noncomputable abbrev fsV1 : List (Nat × AV) := (15, .oi 11) :: fsV
theorem gV0 (p : Lw) : runTo (L0 p) Try.prog Hand.none 3000 ntQ q10a (frOf fsV) (hOf 21000 bsW) .normal (CW' rlW [(.int .i64 0, 11), (.oi 30, 30)]) vW fsV1 bsW = true := by as_aux_lemma => kernel_rfl
noncomputable abbrev RV (hj : p.j < p.o) (ho : p.o < 1000) : Rl p where
  ib := [(11, .oi 11, .oi 30, .bool true), (14, .oi 11, .int .i64 0, .bool true), (10, .oi 8, .oi 8, .bool false), (0, .oi 11, .int .i64 1, .oi 12)]
  ibok := rLtL p.j p.o (by exact rfl) (by exact rfl) hj (rGeL p.j (by exact rfl) (rNe (a := (p.R p.j).2) (b := (p.R p.j).2) (K := .i64) (rAdd (a := (p.j : Int)) (b := 1) (c := ((p.j + 1 : Nat) : Int)) ibNil) (by exact rfl) (by exact rfl) (by simp)))
  vl := [⟨30, 11, 2, 0, [.ostr 4, .oi 8]⟩, ⟨30, 11, 2, 0, [.ostr 4]⟩, ⟨30, 11, 2, 1, [.oi 8]⟩]
  vlok := vlO (q := p.j) (by exact rfl) hj (by exact rfl) (by exact rfl) (fun _ h => nomatch h)
  tr := [(4, [.ostr 4, .ostr 4], .bool true)]
  trok := allCons ⟨(p.R p.j).1, (p.R p.j).1, true, rfl, rfl, rfl, by simp⟩ (fun _ h => nomatch h)
theorem gV1 (hj : p.j < p.o) (ho : p.o < 1000) : runTo (RV hj ho).T Try.prog Hand.none 3000 ntQ q10L (frOf fsV1) (hOf 21000 bsW) .normal (CW' rlW [(.oi 12, 11), (.oi 30, 30)]) vW fsV1 bsW = true := by as_aux_lemma => kernel_rfl
theorem gVx (h : ¬ p.j < p.o) : runTo (RDx h).T Try.prog Hand.none 3000 ntQ q10L (frOf fsV1) (hOf 21000 bsW) (.exit 4) (CW' [] []) [] [(5, .bool true)] [] = true := by as_aux_lemma => kernel_rfl
theorem gVz (p : Lw) : runTo (L0 p) Try.prog Hand.none 3000 ntQ (restn 11 qC) (frOf [(5, .bool true)]) (hOf 21000 []) .ret (CW' [] []) [] [(4, .bool true)] [] = true := by as_aux_lemma => kernel_rfl
end
end Go.Proofs.Ytnenjcehicaobaa.pf
