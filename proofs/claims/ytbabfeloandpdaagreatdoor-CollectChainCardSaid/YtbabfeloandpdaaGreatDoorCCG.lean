/-
  The law CollectChain: objects slide: runs.
-/
import Derived.Test.YtbabfeloandpdaaGreatDoorCCF
set_option linter.unusedVariables false
set_option linter.unusedSimpArgs false
set_option linter.unusedSectionVars false
set_option maxRecDepth 1000000
set_option maxHeartbeats 0
namespace Go.Proofs.YtbabfeloandpdaaGreatDoor.cc
open Go.X Go.RowKit Go.Proofs
/-- to the loops -/
noncomputable abbrev iBase : IP := [(.oi 0, 0), (.oi 2, 2), (.map 0, 0)]
noncomputable abbrev rl1 (a : Nat) : List (Nat × Nat) := [(40001, a)]
noncomputable abbrev rl2 (a b : Nat) : List (Nat × Nat) := [(40001, a), (40002, b)]
noncomputable abbrev rl3 (a b : Nat) : List (Nat × Nat) := [(40001, a), (40003, b)]
noncomputable abbrev C1 (a : Nat) (ip : IP) : Cv := ⟨40000, 40002, ofPairs (rl1 a), ip⟩
noncomputable abbrev C2 (a b : Nat) (ip : IP) : Cv := ⟨40000, 40003, ofPairs (rl2 a b), ip⟩
noncomputable abbrev C3 (a b : Nat) (ip : IP) : Cv := ⟨40000, 40004, ofPairs (rl3 a b), ip⟩
noncomputable abbrev vW (i j : Nat) : VP := [(20001, .vec i, j), (20002, .vec 11, 11)]
noncomputable abbrev vS (i j : Nat) : VP := [(20001, .vec i, j), (20002, .vec 11, 11)]
noncomputable abbrev sFr : Fr := T.ofList 0 .leaf [.ptr 3255 0, fnK]
noncomputable abbrev iA0 : IP := (.nilm, 2) :: iBase
noncomputable abbrev iA1 : IP := (.map 2, 2) :: (.int .i64 0, 40) :: (.int .i64 0, 10) :: iBase
theorem gA0 (p : Pc) : firstTo (T0 p 0) Tryz.prog Hand.none 3000 ntS 4 sC sFr (hIn 30006 preS) (C1 30006 iA0) (vW 10 10) fsF0 (bsF 30006 2) = true := by as_aux_lemma => kernel_rfl
theorem gA1 (p : Pc) : runTo (T0 p 0) Tryz.prog Hand.none 3000 ntS s4 (frOf fsF0) (hOf 40002 (bsF 40001 2)) .normal (C1 40001 iA1) (vW 10 10) (fsF (.oi 10) (.oi 40)) (bsF 40001 2) = true := by as_aux_lemma => kernel_rfl
noncomputable abbrev iK : IP := (.map 3, 2) :: (.oi 42, 40) :: (.oi 11, 10) :: iBase
noncomputable abbrev iG : IP := (.map 2, 2) :: (.oi 40, 40) :: (.oi 11, 10) :: iBase
theorem gK1 (p : Pc) (k : Nat) (h : Ok p) (hk : k < p.n) (hg : p.g ≤ k) (ht : decide (k + 1 < p.n) = true) (hm : mapL ((3 * k + 1 : Nat) : Int) p.ma.1 = some 1) : runTo (Tb (RK p k true h hk hg ht) (MK p k hg hm)) Tryz.prog Hand.none 3000 ntS s4L (frOf (fsF (.oi 10) (.oi 40))) (hOf 40002 (bsF 40001 2)) .normal (C1 40001 iK) (vW 10 10) (fsF (.oi 10) (.oi 40)) (bsF 40001 2) = true := by as_aux_lemma => kernel_rfl
theorem gK0 (p : Pc) (k : Nat) (h : Ok p) (hk : k < p.n) (hg : p.g ≤ k) (ht : decide (k + 1 < p.n) = false) (hm : mapL ((3 * k + 1 : Nat) : Int) p.ma.1 = some 1) : runTo (Tb (RK p k false h hk hg ht) (MK p k hg hm)) Tryz.prog Hand.none 3000 ntS s4L (frOf (fsF (.oi 10) (.oi 40))) (hOf 40002 (bsF 40001 2)) .normal (C1 40001 iK) (vW 10 10) (fsF (.oi 10) (.oi 40)) (bsF 40001 2) = true := by as_aux_lemma => kernel_rfl
theorem gG (p : Pc) (k : Nat) (h : Ok p) (hk : k < p.n) (hm : mapL ((3 * k + 1 : Nat) : Int) p.ma.1 = none) : runTo (Tb (RG p k h hk) (MG p k hm)) Tryz.prog Hand.none 3000 ntS s4L (frOf (fsF (.oi 10) (.oi 40))) (hOf 40002 (bsF 40001 2)) .normal (C1 40001 iG) (vW 10 10) (fsF (.oi 10) (.oi 40)) (bsF 40001 2) = true := by as_aux_lemma => kernel_rfl
noncomputable abbrev iE : IP := (.map 2, 5) :: (.oi 40, 4) :: iBase
theorem gE (p : Pc) (k : Nat) (hk : ¬ k < p.n) : runTo (Tb (RE p k hk) (M0 p k)) Tryz.prog Hand.none 3000 ntS s4L (frOf (fsF (.oi 10) (.oi 40))) (hOf 40002 (bsF 40001 2)) (.exit 0) (C1 40001 iE) (vW 10 10) fsG (bsJ 40001 10) = true := by as_aux_lemma => kernel_rfl
/- the range -/
noncomputable abbrev iR : IP := (.map 5, 5) :: (.oi 4, 4) :: iBase
theorem gR (p : Pc) (hq : p.q = (p.cnt, [], p.cnt)) : runTo (Tb (R0 p 0) (MA p 0 hq)) Tryz.prog Hand.none 3000 ntS s5 (frOf fsG) (hOf 40002 (bsJ 40001 10)) .normal (C2 40001 40002 ((.ptr 0 0, 0) :: iR)) (vW 10 10) fsI (bsI 40001 40002 10 (.oit 40001 0)) = true := by as_aux_lemma => kernel_rfl
theorem gNt (p : Pc) (j : Nat) (hs : Sok p) (hj : j < p.cnt) (hn : j ∉ p.q.2.1) : runTo (Tb (R0 p 0) (MXt p 0 j hs hj hn)) Tryz.prog Hand.none 3000 ntS n5 (frOf fsI) (hOf 40003 (bsI 40001 40002 10 (.oit 40001 0))) .normal (C2 40001 40002 ((.ptr 0 0, 0) :: iR)) (vW 10 10) fsI2 (bsI 40001 40002 10 (.oin 40001 5 0)) = true := by as_aux_lemma => kernel_rfl
theorem gNf (p : Pc) (hs : Sok p) (hn : ∀ j, j < p.cnt → j ∈ p.q.2.1) : runTo (Tb (R0 p 0) (MXf p 0 hs hn)) Tryz.prog Hand.none 3000 ntS s5L (frOf fsI) (hOf 40003 (bsI 40001 40002 10 (.oit 40001 0))) (.exit 2) (C1 40001 iR) (vW 10 10) fsG (bsJ 40001 10) = true := by as_aux_lemma => kernel_rfl
theorem gB (p : Pc) (d : Nat) (h : Ok p) (hw : Wok p) (hc : p.c < p.n) (hv : Vok p d) (hx : Xok p d) (hq : Qok p) : runTo (Tb (RR p 0 d h hw hc hv hx) (MR p 0 d hq hv hx)) Tryz.prog hC 3000 ntS b5 (frOf fsI2) (hOf 40003 (bsI 40001 40002 10 (.oit 40001 1))) .normal (C2 40001 40002 ((.ptr 1 0, 0) :: iR)) (vW 15 10) fsI (bsI 40001 40002 10 (.oit 40001 0)) = true := by as_aux_lemma => kernel_rfl
theorem gBz (p : Pc) (h : Ok p) (hw : Wok p) (hc : p.c < p.n) (hz : p.v = 0) (hq : Qok p) : runTo (Tb (RZ p 0 h hw hc hz) (MRz p 0 hq)) Tryz.prog hC 3000 ntS b5 (frOf fsI2) (hOf 40003 (bsI 40001 40002 10 (.oit 40001 1))) .normal (C2 40001 40002 ((.ptr 1 0, 0) :: iR)) (vW 10 10) fsI (bsI 40001 40002 10 (.oit 40001 0)) = true := by as_aux_lemma => kernel_rfl
/- the third loop -/
noncomputable abbrev fsJ0 : List (Nat × AV) := (13, .nils) :: fsG
theorem gJ0 (p : Pc) : runTo (T0 p 0) Tryz.prog Hand.none 3000 ntS s6 (frOf fsG) (hOf 40002 (bsJ 40001 10)) .normal (C1 40001 iR) (vW 10 10) fsJ0 (bsJ 40001 10) = true := by as_aux_lemma => kernel_rfl
theorem gJ1 (p : Pc) : runTo (T0 p 0) Tryz.prog Hand.none 3000 ntS s7 (frOf fsJ0) (hOf 40002 (bsJ 40001 10)) .normal (C1 40001 ((.int .i64 0, 10) :: iR)) (vW 10 10) (fsJ .nils (.oi 10)) (bsJ 40001 10) = true := by as_aux_lemma => kernel_rfl
theorem gW (p : Pc) (k : Nat) (h : Ok p) (hk : k < p.n) (hg : k < p.g) : runTo (Tb (RG p k h hk) (MW p k hg)) Tryz.prog Hand.none 3000 ntS s7L (frOf (fsJ .nils (.oi 10))) (hOf 40002 (bsJ 40001 10)) .normal (C1 40001 ((.oi 11, 10) :: iR)) (vW 10 10) (fsJ .nils (.oi 10)) (bsJ 40001 10) = true := by as_aux_lemma => kernel_rfl
noncomputable abbrev z1 : Blk := rowOf [.oi 40] true
noncomputable abbrev iV0 : IP := (.int .i64 1, 43) :: (.oi 11, 10) :: iR
theorem gF1 (p : Pc) (k : Nat) (h : Ok p) (hk : k < p.n) (hg : p.g ≤ k) (ht : decide (k + 1 < p.n) = true) : runTo (Tb (RV p k true h hk hg ht) (MV p k h hk hg)) Tryz.prog Hand.none 3000 ntS s7L (frOf (fsJ .nils (.oi 10))) (hOf 40002 (bsJ 40001 10)) .normal (C3 40001 40003 iV0) ((40003, z1, 20) :: vW 16 10) (fsJ (.ov 40003 43 1) (.oi 10)) (bsK 40001 40003 20 10) = true := by as_aux_lemma => kernel_rfl
theorem gF0 (p : Pc) (k : Nat) (h : Ok p) (hk : k < p.n) (hg : p.g ≤ k) (ht : decide (k + 1 < p.n) = false) : runTo (Tb (RV p k false h hk hg ht) (MV p k h hk hg)) Tryz.prog Hand.none 3000 ntS s7L (frOf (fsJ .nils (.oi 10))) (hOf 40002 (bsJ 40001 10)) .normal (C3 40001 40003 iV0) ((40003, z1, 20) :: vW 16 10) (fsJ (.ov 40003 43 1) (.oi 10)) (bsK 40001 40003 20 10) = true := by as_aux_lemma => kernel_rfl
noncomputable abbrev iV : IP := (.oi 44, 43) :: (.oi 11, 10) :: iR
theorem gV1 (p : Pc) (k : Nat) (h : Ok p) (hk : k < p.n) (hg : p.g ≤ k) (ht : decide (k + 1 < p.n) = true) : runTo (Tb (RV p k true h hk hg ht) (MV p k h hk hg)) Tryz.prog Hand.none 3000 ntS s7L (frOf (fsJ (.ov 40003 43 1) (.oi 10))) (hOf 40004 (bsK 40001 40003 20 10)) .normal (C3 40001 40005 iV) ((40005, .vec 21, 20) :: vW 16 10) (fsJ (.ov 40003 43 1) (.oi 10)) (bsK 40001 40005 20 10) = true := by as_aux_lemma => kernel_rfl
theorem gV0 (p : Pc) (k : Nat) (h : Ok p) (hk : k < p.n) (hg : p.g ≤ k) (ht : decide (k + 1 < p.n) = false) : runTo (Tb (RV p k false h hk hg ht) (MV p k h hk hg)) Tryz.prog Hand.none 3000 ntS s7L (frOf (fsJ (.ov 40003 43 1) (.oi 10))) (hOf 40004 (bsK 40001 40003 20 10)) .normal (C3 40001 40005 iV) ((40005, .vec 21, 20) :: vW 16 10) (fsJ (.ov 40003 43 1) (.oi 10)) (bsK 40001 40005 20 10) = true := by as_aux_lemma => kernel_rfl
noncomputable abbrev fsZ (t : AV) : List (Nat × AV) := [(0, .ptr 3255 0), (5, .map 40001), (6, t), (13, .ov 40003 3 1)]
theorem gY1 (p : Pc) (k : Nat) (hk : ¬ k < p.n) : runTo (Tb (RE p k hk) (M0 p k)) Tryz.prog Hand.none 3000 ntS s7L (frOf (fsJ (.ov 40003 43 1) (.oi 10))) (hOf 40004 (bsK 40001 40003 20 10)) (.exit 6) (C3 40001 40003 ((.oi 43, 3) :: iR)) ((40003, .vec 20, 23) :: vW 10 10) (fsZ (.oi 4)) (bsK 40001 40003 23 10) = true := by as_aux_lemma => kernel_rfl
theorem gY2 (p : Pc) (k : Nat) (hk : ¬ k < p.n) : runTo (Tb (RE p k hk) (M0 p k)) Tryz.prog Hand.none 3000 ntS s7L (frOf (fsJ (.ov 40003 43 1) (.oi 10))) (hOf 40004 (bsK 40001 40003 20 10)) (.exit 6) (C3 40001 40003 ((.oi 43, 3) :: (.oi 4, 2) :: iR)) ((40003, .vec 20, 23) :: vW 10 10) (fsZ (.oi 2)) (bsK 40001 40003 23 10) = true := by as_aux_lemma => kernel_rfl
/- the end -/
noncomputable abbrev postS (a b : Nat) : BS := [(30011, a, .omap 5), (30012, b, .vec 23), (20001, 20001, .vec 22), (20004, 20004, shp 20005), (20005, 20005, knd), (3255, 3255, hp 20001 4 30012 3 20004), (3254, 3254, mp)]
noncomputable abbrev C4 (a b : Nat) (ip : IP) : Cv := ⟨30006, 30020, ofPairs [(30011, a), (30012, b)], ip⟩
noncomputable abbrev iZ : IP := [(.map 5, 5), (.oi 4, 4), (.oi 3, 3)]
theorem gZ1 (p : Pc) (h : Ok p) (hg : 0 < p.g) : runTo (Tb (RX1 p 0 h) (MX1 p 0 h hg)) Tryz.prog Hand.none 3000 ntS (restn 8 sC) (frOf (fsZ (.oi 4))) (hOf 40004 (bsK 40001 40003 23 10)) .ret (C4 40001 40003 iZ) [(20001, .vec 25, 22), (40003, .vec 23, 23)] [(4, .map 30011)] (postS 40001 40003) = true := by as_aux_lemma => kernel_rfl
theorem gZ2 (p : Pc) (h : Ok p) : runTo (Tb (RX2 p 0 h) (M0 p 0)) Tryz.prog Hand.none 3000 ntS (restn 8 sC) (frOf (fsZ (.oi 2))) (hOf 40004 (bsK 40001 40003 23 10)) .ret (C4 40001 40003 ((.oi 2, 4) :: iZ)) [(20001, .vec 10, 22), (40003, .vec 23, 23)] [(4, .map 30011)] (postS 40001 40003) = true := by as_aux_lemma => kernel_rfl
end Go.Proofs.YtbabfeloandpdaaGreatDoor.cc
