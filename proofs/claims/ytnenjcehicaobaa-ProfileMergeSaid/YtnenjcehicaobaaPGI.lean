/-
  The law ProfileTop: what came out is looked at: rows, runs.
-/
import Derived.Test.YtnenjcehicaobaaPGH
set_option linter.unusedVariables false
set_option linter.unusedSimpArgs false
set_option linter.unusedSectionVars false
set_option maxRecDepth 1000000
set_option maxHeartbeats 0
namespace Go.Proofs.Ytnenjcehicaobaa.pf
open Go.X Go.RowKit Go.Proofs
noncomputable def l6 : Code := hd (restn 6 lC)
theorem l6_eq : restn 6 lC = .seq l6 (restn 7 lC) := by kernel_rfl
noncomputable def l7 : Code := hd (restn 7 lC)
theorem l7_eq : restn 7 lC = .seq l7 (restn 8 lC) := by kernel_rfl
noncomputable def l8 : Code := hd (restn 8 lC)
theorem l8_eq : restn 8 lC = .seq l8 (restn 9 lC) := by kernel_rfl
noncomputable def l9a : Code := hd (hd (restn 9 lC))
noncomputable def l9L : Code := lpIn (tl (hd (restn 9 lC)))
theorem l9_eq : restn 9 lC = .seq (.seq l9a (.block 2 (.loop l9L))) (restn 10 lC) := by kernel_rfl
noncomputable def l10a : Code := hd (hd (restn 10 lC))
noncomputable def l10L : Code := lpIn (tl (hd (restn 10 lC)))
theorem l10_eq : restn 10 lC = .seq (.seq l10a (.block 4 (.loop l10L))) (restn 11 lC) := by kernel_rfl
noncomputable def l10c : Code := hd l10L
noncomputable def l10x : Code := blkIn (hd (tl l10L))
noncomputable def l10z : Code := tl (tl l10L)
theorem l10L_in : l10L = .seq l10c (.seq (.block 5 l10x) l10z) := by kernel_rfl
noncomputable def x0 : Code := hd l10x
noncomputable def x1 : Code := hd (hd (tl l10x))
noncomputable def xL : Code := lpIn (tl (hd (tl l10x)))
noncomputable def x2 : Code := tl (tl l10x)
theorem l10x_in : l10x = .seq x0 (.seq (.seq x1 (.block 6 (.loop xL))) x2) := by kernel_rfl
noncomputable abbrev lv : AV := .ov 20003 30 2
noncomputable abbrev fsC (k l : AV) : List (Nat × AV) := [(2, .oi 40), (7, .bool true), (8, .map 18001), (9, k), (14, l)]
noncomputable abbrev fsC5 : List (Nat × AV) := [(2, .oi 40), (7, .bool true), (8, .map 18001), (9, kv), (14, lv), (15, .oi 30)]
noncomputable abbrev fsG : List (Nat × AV) := [(7, .bool true), (8, .map 18001), (9, kv), (14, lv)]
noncomputable abbrev bsG : BS := [(18001, 18001, .omap 0), (18002, 18002, .vec 40), (20003, 20003, .vec 30)]
noncomputable abbrev CG (rl : List (Nat × Nat)) (ip : IP) : Cv := ⟨18000, 21000, ofPairs rl, ip⟩
noncomputable abbrev rlG : List (Nat × Nat) := [(18001, 18001), (18002, 18002), (20003, 20003)]
noncomputable abbrev iG : IP := [(.oi 6, 6), (.oi 30, 30), (.map 0, 0)]
noncomputable abbrev vG : VP := [(18002, .vec 40, 40), (20003, .vec 30, 30)]
section
variable {p : Lw}
/- Top is called -/
theorem gTA (p : Lw) : runTo (L0 p) Try.prog (inHand tI0) 3000 ntL l6 (frOf (fsB .nils)) (hOf 19000 (bsA0 18001)) .normal (CG [] [(.oi 40, 40)]) [] [(2, .oi 40), (7, .bool true), (9, .nils), (14, .nils)] [] = true := by as_aux_lemma => kernel_rfl
theorem gTB (p : Lw) : runTo (L0 p) Try.prog (inHand tI0) 3000 ntL l6 (frOf (fsB kv)) (hOf 19000 (bsA1 18001 18002 40)) .normal (CG [(18002, 18002)] [(.oi 6, 6), (.oi 40, 40)]) (vK 40) [(2, .oi 40), (7, .bool true), (9, kv), (14, .nils)] [(18002, 18002, .vec 40)] = true := by as_aux_lemma => kernel_rfl
theorem gTC (p : Lw) : runTo (L0 p) Try.prog (inHand tI1) 3000 ntL l6 (frOf (fsB kv)) (hOf 19000 (bsA1 18001 18002 40)) .normal (CG rlG ((.oi 40, 40) :: iG)) vG (fsC kv lv) bsG = true := by as_aux_lemma => kernel_rfl
/- nothing came out -/
noncomputable abbrev RZA (t : Bool) (h : decide (0 < p.K) = t) : Rl p where
  ib := [(11, .int .i64 0, .oi 40, .bool t), (13, .oi 40, .int .i64 0, .bool t)]
  ibok := rLt (a := 0) (b := p.K) (rGt (a := p.K) (b := 0) ibNil (by exact rfl) (by exact rfl) h) (by exact rfl) (by exact rfl) h
theorem gZA (t : Bool) (h : decide (0 < p.K) = t) : runTo (RZA t h).T Try.prog Hand.none 3000 ntL (restn 7 lC) (frOf [(2, .oi 40), (7, .bool true), (9, .nils), (14, .nils)]) (hOf 21000 []) .ret (CG [] []) [] [(6, .bool true)] [] = true := by cases t <;> as_aux_lemma => kernel_rfl
noncomputable abbrev RZB (hK : p.K ≤ 0) (hk : 0 < p.k) : Rl p where
  ib := [(11, .oi 6, .oi 40, .bool false), (13, .oi 40, .int .i64 0, .bool false), (11, .int .i64 0, .oi 6, .bool true)]
  ibok := rLt (a := (p.k : Int)) (b := p.K) (rGt (a := p.K) (b := 0) (rLt (a := 0) (b := (p.k : Int)) ibNil))
theorem gZB (hK : p.K ≤ 0) (hk : 0 < p.k) : runTo (RZB hK hk).T Try.prog Hand.none 3000 ntL (restn 7 lC) (frOf [(2, .oi 40), (7, .bool true), (9, kv), (14, .nils)]) (hOf 21000 [(18002, 18002, .vec 40)]) .ret (CG [] []) [] [(6, .bool true)] [] = true := by as_aux_lemma => kernel_rfl
/- so many came out -/
noncomputable abbrev RW (t : Bool) (hk : 0 < p.k) (hK : 0 < p.K) (h : decide ((p.k : Int) < p.K) = t) : Rl p where
  ib := [(11, .oi 6, .oi 40, .bool t), (13, .oi 40, .int .i64 0, .bool true), (13, .oi 6, .int .i64 0, .bool true)]
  ibok := rLt (a := (p.k : Int)) (b := p.K) (rGt (a := p.K) (b := 0) (rGt (a := (p.k : Int)) (b := 0) ibNil)) (by exact rfl) (by exact rfl) h
theorem gWt (hk : 0 < p.k) (hK : 0 < p.K) (h : decide ((p.k : Int) < p.K) = true) : runTo (RW true hk hK h).T Try.prog Hand.none 3000 ntL l7 (frOf (fsC kv lv)) (hOf 21000 bsG) .normal (CG rlG ((.oi 6, 30) :: (.oi 40, 40) :: iG)) vG fsC5 bsG = true := by as_aux_lemma => kernel_rfl
theorem gWf (hk : 0 < p.k) (hK : 0 < p.K) (h : decide ((p.k : Int) < p.K) = false) : runTo (RW false hk hK h).T Try.prog Hand.none 3000 ntL l7 (frOf (fsC kv lv)) (hOf 21000 bsG) .normal (CG rlG ((.oi 40, 30) :: (.oi 40, 40) :: iG)) vG fsC5 bsG = true := by as_aux_lemma => kernel_rfl
noncomputable abbrev RV8 (p : Lw) : Rl p where
  ib := [(10, .oi 30, .oi 30, .bool false)]
  ibok := rNe (a := (p.o : Int)) (b := (p.o : Int)) (K := .i64) ibNil (by exact rfl) (by exact rfl) (by simp)
theorem gV8 (p : Lw) : runTo (RV8 p).T Try.prog Hand.none 3000 ntL l8 (frOf fsC5) (hOf 21000 bsG) .normal (CG rlG iG) vG fsG bsG = true := by as_aux_lemma => kernel_rfl
/- the rows that came out -/
noncomputable abbrev fsDd : List (Nat × AV) := (16, .oi 11) :: fsG
noncomputable abbrev rwDd (t : Bool) : List BRow := [(11, .oi 11, .oi 30, .bool true), (14, .oi 11, .int .i64 0, .bool true), (10, .oi 8, .oi 8, .bool false), (13, .oi 11, .int .i64 0, .bool t), (1, .oi 11, .int .i64 1, .oi 13), (11, .oi 13, .oi 30, .bool true), (14, .oi 13, .int .i64 0, .bool true), (0, .oi 11, .int .i64 1, .oi 12)]
end
end Go.Proofs.Ytnenjcehicaobaa.pf
