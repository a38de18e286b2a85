/-
  The law ProfileTop: the map is made: rows, runs.
-/
import Derived.Test.YtnenjcehicaobaaPGG
set_option linter.unusedVariables false
set_option linter.unusedSimpArgs false
set_option linter.unusedSectionVars false
set_option maxRecDepth 1000000
set_option maxHeartbeats 0
namespace Go.Proofs.Ytnenjcehicaobaa.pf
open Go.X Go.RowKit Go.Proofs
noncomputable def lC : Code := codeOf Try.f3
theorem lC_eq : Try.f3.body = some lC := by kernel_rfl
noncomputable abbrev ntL : Nat := Try.f3.ntmps
noncomputable def l5 : Code := hd (restn 5 lC)
theorem l5_eq : restn 5 lC = .seq l5 (restn 6 lC) := by kernel_rfl
noncomputable def l5a : Code := hd l5
noncomputable def l5L : Code := lpIn (tl l5)
theorem l5_in : l5 = .seq l5a (.block 0 (.loop l5L)) := by kernel_rfl
noncomputable abbrev fsA (k : AV) : List (Nat × AV) := [(0, .fo 0 0 1), (1, .fo 1 1 1), (2, .oi 40), (7, .bool true), (8, .map 18001), (9, k)]
noncomputable abbrev fsA' (k : AV) : List (Nat × AV) := [(0, .fo 0 0 1), (1, .fo 1 1 1), (2, .oi 40), (7, .bool true), (8, .map 18001), (9, k), (10, .oi 2)]
noncomputable abbrev fsB (k : AV) : List (Nat × AV) := [(2, .oi 40), (7, .bool true), (8, .map 18001), (9, k)]
noncomputable abbrev bsA0 (x : Nat) : BS := [(18001, x, .omap 0)]
noncomputable abbrev bsA1 (x y v : Nat) : BS := [(18001, x, .omap 0), (18002, y, .vec v)]
noncomputable abbrev CL (rl : List (Nat × Nat)) (ip : IP) : Cv := ⟨18000, 19000, ofPairs rl, ip⟩
noncomputable abbrev kv : AV := .ov 18002 6 1
section
variable {p : Lw}
noncomputable abbrev rwX (t1 t2 t3 : Bool) : List BRow := [(11, .oi 2, .oi 0, .bool t1), (11, .oi 2, .oi 1, .bool t2), (11, .oi 2, .int .i64 30, .bool t3)]
theorem rwX_ok {t1 t2 t3 : Bool} (h1 : decide (p.i < p.n1) = t1) (h2 : decide (p.i < p.n2) = t2) (h3 : decide (p.i < 30) = t3) {l : List BRow} (k : ∀ r ∈ l, IbOk (ivL p) r) : ∀ r ∈ rwX t1 t2 t3 ++ l, IbOk (ivL p) r :=
  rLt (a := (p.i : Int)) (b := (p.n1 : Int)) (rLt (a := (p.i : Int)) (b := (p.n2 : Int)) (rLt (a := (p.i : Int)) (b := 30) k (by exact rfl) (by exact rfl) (by rw [← h3, decide_eq_decide]; omega)) (by exact rfl) (by exact rfl) (by rw [← h2, decide_eq_decide]; omega)) (by exact rfl) (by exact rfl) (by rw [← h1, decide_eq_decide]; omega)
noncomputable abbrev RX (t1 t2 t3 : Bool) (h1 : decide (p.i < p.n1) = t1) (h2 : decide (p.i < p.n2) = t2) (h3 : decide (p.i < 30) = t3) : Rl p where
  ib := rwX t1 t2 t3 ++ []
  ibok := rwX_ok h1 h2 h3 ibNil
structure Ai (p : Lw) : Prop where
  h1 : p.i < p.n1
  h2 : p.i < p.n2
  h3 : p.i < 30
  k : p.k < 100
noncomputable abbrev rwY : List BRow := rwX true true true ++ [(14, .oi 2, .int .i64 0, .bool true), (0, .oi 2, .int .i64 1, .oi 3)]
theorem rwY_ok (h : Ai p) : ∀ r ∈ rwY, IbOk (ivL p) r := by
  have h3 := h.h3
  exact rwX_ok (decide_eq_true h.h1) (decide_eq_true h.h2) (decide_eq_true h.h3) (rGe (a := (p.i : Int)) (b := 0) (rAdd (a := (p.i : Int)) (b := 1) (c := ((p.i + 1 : Nat) : Int)) ibNil))
theorem flY (h : Ai p) : ∀ r ∈ ([⟨0, 2, 1, 0, [.ostr 0]⟩, ⟨1, 2, 1, 0, [.oi 4]⟩] : List VL), isLen (ivL p r.k) ∧ ∀ m b, r.l[m]? = some b → ∃ a, fvL p r.i ((ivL p r.k).2.toNat * r.z + r.f + m) = some a ∧ sameT (strL p) (fun _ => .nilIface) (ivL p) a b := by
  refine allCons ⟨⟨rfl, Int.natCast_nonneg _⟩, fun m b hb => ?_⟩ (allCons ⟨⟨rfl, Int.natCast_nonneg _⟩, fun m b hb => ?_⟩ (fun _ h => nomatch h))
  · have hm : m = 0 := by have := (List.getElem?_eq_some_iff.1 hb).1; simpa using this
    subst hm
    cases hb
    refine ⟨.ostr (102 + 4 * p.i), ?_, ?_⟩
    · show celV p.n1 (fun m => AV.ostr (102 + 4 * m)) ((p.i : Int).toNat * 1 + 0 + 0) = some (AV.ostr (102 + 4 * p.i))
      rw [show (p.i : Int).toNat * 1 + 0 + 0 = p.i by rw [Int.toNat_natCast]; omega]
      exact celV_lt h.h1
    · exact sameS (N := NmL p) (s := p.e1 p.i) (by show some (strL p (102 + 4 * p.i)) = _; rw [strL_e]) (by exact rfl)
  · have hm : m = 0 := by have := (List.getElem?_eq_some_iff.1 hb).1; simpa using this
    subst hm
    cases hb
    refine ⟨.int .i64 (p.e2 p.i), ?_, ?_⟩
    · show numV .i64 p.n2 p.e2 ((p.i : Int).toNat * 1 + 0 + 0) = _
      rw [show (p.i : Int).toNat * 1 + 0 + 0 = p.i by rw [Int.toNat_natCast]; omega]
      unfold numV
      rw [if_pos h.h2]
    · exact sameI (N := NmL p) (q := (.i64, p.e2 p.i)) (by exact rfl) (by exact rfl)
theorem muY (ht : ∀ e ∈ p.E.1, e.1.txt = true) (hu : p.E' = mapU p.E (.s (cutB (p.e1 p.i))) (p.e2 p.i)) : ∀ r ∈ ([(0, .ostr 2, .oi 4, 1)] : List (Nat × AV × AV × Nat)), ∃ k n, denK (strL p) (ivL p) r.2.1 k ∧ (∀ e ∈ (mmL p r.1).1, e.1.txt = k.txt) ∧ denI (ivL p) r.2.2.1 = some (.i64, n) ∧ mmL p r.2.2.2 = mapU (mmL p r.1) k n :=
  allCons ⟨.s (cutB (p.e1 p.i)), p.e2 p.i, (by show some (strL p 2) = _; rfl), ht, rfl, hu⟩ (fun _ h => nomatch h)
noncomputable abbrev RN (h : Ai p) (hk : p.kt p.k = cutB (p.e1 p.i)) (ht : ∀ e ∈ p.E.1, e.1.txt = true) (hu : p.E' = mapU p.E (.s (cutB (p.e1 p.i))) (p.e2 p.i)) (hl : mapL (.s (cutB (p.e1 p.i))) p.E.1 = none) : Rl p where
  ib := rwY
  ibok := rwY_ok h
  fl := [⟨0, 2, 1, 0, [.ostr 0]⟩, ⟨1, 2, 1, 0, [.oi 4]⟩]
  flok := flY h
  va := [⟨40, 6, 1, [.ostr 2], 41, 7⟩]
  vaok := by
    have h4 := h.k
    exact gA (n := p.k) (e := ck) (e' := ck) (fun _ h => nomatch h) (by exact rfl) (by exact rfl) (by exact rfl) (by exact rfl) (by exact rfl) (by omega) (fun m _ => sameR) (sameS (N := NmL p) (s := cutB (p.e1 p.i)) (by exact rfl) (by show some (strL p (100 + 4 * p.k)) = _; rw [strL_k, hk]))
  ml := [(0, .ostr 2, .int .i64 0, false)]
  mlok := allCons ⟨.s (cutB (p.e1 p.i)), (by show some (strL p 2) = _; rfl), ht, (fun c => by cases c), fun _ => hl⟩ (fun _ h => nomatch h)
  mu := [(0, .ostr 2, .oi 4, 1)]
  muok := muY ht hu
noncomputable abbrev RO (h : Ai p) (ht : ∀ e ∈ p.E.1, e.1.txt = true) (hu : p.E' = mapU p.E (.s (cutB (p.e1 p.i))) (p.e2 p.i)) (hl : mapL (.s (cutB (p.e1 p.i))) p.E.1 = some p.vi) : Rl p where
  ib := rwY
  ibok := rwY_ok h
  fl := [⟨0, 2, 1, 0, [.ostr 0]⟩, ⟨1, 2, 1, 0, [.oi 4]⟩]
  flok := flY h
  ml := [(0, .ostr 2, .oi 14, true)]
  mlok := allCons ⟨.s (cutB (p.e1 p.i)), (by show some (strL p 2) = _; rfl), ht, (fun _ => ⟨p.vi, rfl, hl⟩), fun c => by cases c⟩ (fun _ h => nomatch h)
  mu := [(0, .ostr 2, .oi 4, 1)]
  muok := muY ht hu
noncomputable abbrev iLw : IP := [(.fo 0 0 1, 0), (.fo 1 1 1, 1), (.oi 0, 0), (.oi 1, 1), (.oi 40, 40)]
noncomputable abbrev vK (v : Nat) : VP := [(18002, .vec v, 40)]
theorem gL0 (p : Lw) : firstTo (L0 p) Try.prog begunH 3000 ntL 5 lC (T.ofList 0 .leaf [.fo 0 0 1, .fo 1 1 1, .oi 40]) H.empty (CL [(18001, 0)] ((.nilm, 0) :: iLw)) [] (fsA .nils) (bsA0 0) = true := by as_aux_lemma => kernel_rfl
theorem gL1 (p : Lw) : runTo (L0 p) Try.prog Hand.none 3000 ntL l5a (frOf (fsA .nils)) (hOf 19000 (bsA0 18001)) .normal (CL [(18001, 18001)] ((.int .i64 0, 2) :: (.map 0, 0) :: iLw)) [] (fsA' .nils) (bsA0 18001) = true := by as_aux_lemma => kernel_rfl
noncomputable abbrev zK : Blk := rowOf [.ostr 2] true
theorem gLx0 (t1 t2 t3 : Bool) (h1 : decide (p.i < p.n1) = t1) (h2 : decide (p.i < p.n2) = t2) (h3 : decide (p.i < 30) = t3) (hx : (t1 && (t2 && t3)) = false) : runTo (RX t1 t2 t3 h1 h2 h3).T Try.prog Hand.none 3000 ntL l5L (frOf (fsA' .nils)) (hOf 19000 (bsA0 18001)) (.exit 0) (CL [(18001, 18001)] [(.map 0, 0), (.oi 40, 40)]) [] (fsB .nils) (bsA0 18001) = true := by
  cases t1 <;> cases t2 <;> cases t3 <;> first | (cases hx; done) | (as_aux_lemma => kernel_rfl)
theorem gLx1 (t1 t2 t3 : Bool) (h1 : decide (p.i < p.n1) = t1) (h2 : decide (p.i < p.n2) = t2) (h3 : decide (p.i < 30) = t3) (hx : (t1 && (t2 && t3)) = false) : runTo (RX t1 t2 t3 h1 h2 h3).T Try.prog Hand.none 3000 ntL l5L (frOf (fsA' kv)) (hOf 19000 (bsA1 18001 18002 40)) (.exit 0) (CL [(18001, 18001), (18002, 18002)] [(.oi 6, 6), (.map 0, 0), (.oi 40, 40)]) (vK 40) (fsB kv) (bsA1 18001 18002 40) = true := by
  cases t1 <;> cases t2 <;> cases t3 <;> first | (cases hx; done) | (as_aux_lemma => kernel_rfl)
theorem gLn0 (h : Ai p) (hk : p.kt p.k = cutB (p.e1 p.i)) (ht : ∀ e ∈ p.E.1, e.1.txt = true) (hu : p.E' = mapU p.E (.s (cutB (p.e1 p.i))) (p.e2 p.i)) (hl : mapL (.s (cutB (p.e1 p.i))) p.E.1 = none) : runTo (RN h hk ht hu hl).T Try.prog cutH 3000 ntL l5L (frOf (fsA' .nils)) (hOf 19000 (bsA0 18001)) .normal (CL [(18001, 18001), (18002, 19001)] ((.int .i64 1, 6) :: (.oi 3, 2) :: (.map 1, 0) :: iLw)) [(19001, zK, 40)] (fsA' kv) (bsA1 18001 19001 40) = true := by as_aux_lemma => kernel_rfl
theorem gLn1 (h : Ai p) (hk : p.kt p.k = cutB (p.e1 p.i)) (ht : ∀ e ∈ p.E.1, e.1.txt = true) (hu : p.E' = mapU p.E (.s (cutB (p.e1 p.i))) (p.e2 p.i)) (hl : mapL (.s (cutB (p.e1 p.i))) p.E.1 = none) : runTo (RN h hk ht hu hl).T Try.prog cutH 3000 ntL l5L (frOf (fsA' kv)) (hOf 19000 (bsA1 18001 18002 40)) .normal (CL [(18001, 18001), (18002, 19001)] ((.oi 7, 6) :: (.oi 3, 2) :: (.map 1, 0) :: iLw)) [(19001, .vec 41, 40)] (fsA' kv) (bsA1 18001 19001 40) = true := by as_aux_lemma => kernel_rfl
theorem gLo1 (h : Ai p) (ht : ∀ e ∈ p.E.1, e.1.txt = true) (hu : p.E' = mapU p.E (.s (cutB (p.e1 p.i))) (p.e2 p.i)) (hl : mapL (.s (cutB (p.e1 p.i))) p.E.1 = some p.vi) : runTo (RO h ht hu hl).T Try.prog cutH 3000 ntL l5L (frOf (fsA' kv)) (hOf 19000 (bsA1 18001 18002 40)) .normal (CL [(18001, 18001), (18002, 18002)] ((.oi 6, 6) :: (.oi 3, 2) :: (.map 1, 0) :: iLw)) (vK 40) (fsA' kv) (bsA1 18001 18002 40) = true := by as_aux_lemma => kernel_rfl
end
end Go.Proofs.Ytnenjcehicaobaa.pf
