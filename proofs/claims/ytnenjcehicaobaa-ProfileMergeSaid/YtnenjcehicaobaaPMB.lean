/-
  The law ProfileMerge: maps and lists are made: rows, runs.
-/
import Derived.Test.YtnenjcehicaobaaPMA
import Derived.Test.YtnenjcehicaobaaPGC
import Derived.Test.YtnenjcehicaobaaPGD
set_option linter.unusedVariables false
set_option linter.unusedSimpArgs false
set_option linter.unusedSectionVars false
set_option maxRecDepth 1000000
set_option maxHeartbeats 0
namespace Go.Proofs.Ytnenjcehicaobaa.pf
open Go.X Go.RowKit Go.Proofs
noncomputable def qC : Code := codeOf Try.f4
theorem qC_eq : Try.f4.body = some qC := by kernel_rfl
noncomputable abbrev ntQ : Nat := Try.f4.ntmps
noncomputable def q6a : Code := hd (hd (restn 6 qC))
noncomputable def q6L : Code := lpIn (tl (hd (restn 6 qC)))
theorem q6_eq : restn 6 qC = .seq (.seq q6a (.block 0 (.loop q6L))) (restn 7 qC) := by kernel_rfl
noncomputable def q6c : Code := hd q6L
noncomputable def q6x : Code := blkIn (hd (tl q6L))
noncomputable def q6z : Code := tl (tl q6L)
theorem q6L_in : q6L = .seq q6c (.seq (.block 1 q6x) q6z) := by kernel_rfl
noncomputable def y0 : Code := hd q6x
noncomputable def y1 : Code := hd (hd (tl q6x))
noncomputable def yL : Code := lpIn (tl (hd (tl q6x)))
noncomputable def y2 : Code := tl (tl q6x)
theorem q6x_in : q6x = .seq y0 (.seq (.seq y1 (.block 2 (.loop yL))) y2) := by kernel_rfl
noncomputable abbrev fsP (l : AV) : List (Nat × AV) := [(0, .fo 0 0 1), (1, .oi 40), (5, .bool true), (6, l), (7, .map 18002), (8, .oi 12)]
noncomputable abbrev fsO (l : AV) : List (Nat × AV) := (9, .oi 2) :: fsP l
noncomputable abbrev fsO1 (l : AV) : List (Nat × AV) := (10, .map 18001) :: fsO l
noncomputable abbrev fsO2 (l : AV) : List (Nat × AV) := (11, .oi 5) :: fsO1 l
noncomputable abbrev lsv : AV := .ov 18003 24 1
noncomputable abbrev bsP (l : BS) : BS := (18002, 18002, .omap 2) :: l
noncomputable abbrev bsP1 (l : BS) : BS := (18001, 18001, .omap 0) :: bsP l
noncomputable abbrev bsl : BS := [(18003, 18003, .vec 24)]
noncomputable abbrev CQ (rl : List (Nat × Nat)) (ip : IP) : Cv := ⟨18000, 19000, ofPairs rl, ip⟩
noncomputable abbrev iP : IP := [(.fo 0 0 1, 0), (.oi 0, 0), (.oi 40, 40), (.oi 12, 12), (.map 2, 2)]
noncomputable abbrev iO : IP := (.oi 2, 2) :: iP
noncomputable abbrev iOl : IP := (.oi 24, 24) :: iO
section
variable {p : Lm}
theorem gq0 (p : Lm) : firstTo (M0 p) Try.prog begunH 3000 ntQ 6 qC (T.ofList 0 .leaf [.fo 0 0 1, .oi 40]) H.empty (CQ [(18002, 0)] ((.int .i64 0, 12) :: (.nilm, 2) :: [(.fo 0 0 1, 0), (.oi 0, 0), (.oi 40, 40)])) [] (fsP .nils) [(18002, 0, .omap 2)] = true := by as_aux_lemma => kernel_rfl
theorem gq1 (p : Lm) : runTo (M0 p) Try.prog Hand.none 3000 ntQ q6a (frOf (fsP .nils)) (hOf 19000 (bsP [])) .normal (CQ [(18002, 18002)] ((.int .i64 0, 2) :: iP)) [] (fsO .nils) (bsP []) = true := by as_aux_lemma => kernel_rfl
noncomputable abbrev Rc (t1 t2 : Bool) (h1 : decide (p.i < p.n) = t1) (h2 : decide (p.i < 6) = t2) : Rq p where
  ib := [(11, .oi 2, .oi 0, .bool t1), (11, .oi 2, .int .i64 6, .bool t2)]
  ibok := rLt (a := (p.i : Int)) (b := (p.n : Int)) (rLt (a := (p.i : Int)) (b := 6) ibNil (by exact rfl) (by exact rfl) (by rw [← h2, decide_eq_decide]; omega)) (by exact rfl) (by exact rfl) (by rw [← h1, decide_eq_decide]; omega)
theorem gqc0 (h1 : decide (p.i < p.n) = true) (h2 : decide (p.i < 6) = true) : runTo (Rc true true h1 h2).T Try.prog Hand.none 3000 ntQ q6c (frOf (fsO .nils)) (hOf 19000 (bsP [])) .normal (CQ [(18002, 18002)] iO) [] (fsO .nils) (bsP []) = true := by as_aux_lemma => kernel_rfl
theorem gqc1 (h1 : decide (p.i < p.n) = true) (h2 : decide (p.i < 6) = true) : runTo (Rc true true h1 h2).T Try.prog Hand.none 3000 ntQ q6c (frOf (fsO lsv)) (hOf 19000 (bsP bsl)) .normal (CQ [(18002, 18002), (18003, 18003)] iOl) [(18003, .vec 24, 24)] (fsO lsv) (bsP bsl) = true := by as_aux_lemma => kernel_rfl
theorem gqm0 (p : Lm) : runTo (M0 p) Try.prog Hand.none 3000 ntQ y0 (frOf (fsO .nils)) (hOf 19000 (bsP [])) .normal (CQ [(18001, 19000), (18002, 18002)] ((.nilm, 0) :: iO)) [] (fsO1 .nils) ((18001, 19000, .omap 0) :: bsP []) = true := by as_aux_lemma => kernel_rfl
theorem gqm1 (p : Lm) : runTo (M0 p) Try.prog Hand.none 3000 ntQ y0 (frOf (fsO lsv)) (hOf 19000 (bsP bsl)) .normal (CQ [(18001, 19000), (18002, 18002), (18003, 18003)] ((.nilm, 0) :: iOl)) [(18003, .vec 24, 24)] (fsO1 lsv) ((18001, 19000, .omap 0) :: bsP bsl) = true := by as_aux_lemma => kernel_rfl
theorem gqn0 (p : Lm) : runTo (M0 p) Try.prog Hand.none 3000 ntQ y1 (frOf (fsO1 .nils)) (hOf 19000 (bsP1 [])) .normal (CQ [(18001, 18001), (18002, 18002)] ((.map 0, 0) :: (.int .i64 0, 5) :: iO)) [] (fsO2 .nils) (bsP1 []) = true := by as_aux_lemma => kernel_rfl
theorem gqn1 (p : Lm) : runTo (M0 p) Try.prog Hand.none 3000 ntQ y1 (frOf (fsO1 lsv)) (hOf 19000 (bsP1 bsl)) .normal (CQ [(18001, 18001), (18002, 18002), (18003, 18003)] ((.map 0, 0) :: (.int .i64 0, 5) :: iOl)) [(18003, .vec 24, 24)] (fsO2 lsv) (bsP1 bsl) = true := by as_aux_lemma => kernel_rfl
/- the inner loop -/
structure Ij (p : Lm) : Prop where
  i : p.i < p.n
  i6 : p.i < 6
  sl : ∃ b c, p.rk p.i = .slice b (p.rn p.i) c
theorem rlI (h : Ij p) : ∀ r ∈ ([(1, .oi 4)] : List (Nat × AV)), ∃ b n c, rvM p r.1 = .slice b n c ∧ denI (ivM p) r.2 = some (.i64, ((n : Nat) : Int)) := by
  obtain ⟨b, c, e⟩ := h.sl
  exact allCons ⟨b, p.rn p.i, c, e, rfl⟩ (fun _ h => nomatch h)
theorem flI0 (h : Ij p) {l : List VL} (t : ∀ r ∈ l, isLen (ivM p r.k) ∧ ∀ m b, r.l[m]? = some b → ∃ a, fvM p r.i ((ivM p r.k).2.toNat * r.z + r.f + m) = some a ∧ sameT (strM p) (rvM p) (ivM p) a b) : ∀ r ∈ (⟨0, 2, 1, 0, [.rw 1]⟩ : VL) :: l, isLen (ivM p r.k) ∧ ∀ m b, r.l[m]? = some b → ∃ a, fvM p r.i ((ivM p r.k).2.toNat * r.z + r.f + m) = some a ∧ sameT (strM p) (rvM p) (ivM p) a b := by
  refine allCons ⟨⟨rfl, Int.natCast_nonneg _⟩, fun m b hb => ?_⟩ t
  have hm : m = 0 := by have := (List.getElem?_eq_some_iff.1 hb).1; simpa using this
  subst hm
  cases hb
  refine ⟨.rw (2 * p.i + 11), ?_, ?_⟩
  · show fvM p 0 ((p.i : Int).toNat * 1 + 0 + 0) = _
    rw [show (p.i : Int).toNat * 1 + 0 + 0 = p.i by rw [Int.toNat_natCast]; omega, fvM_0]
    exact celV_lt h.i
  · exact sameH' (N := NmM p) (by show rvM p (2 * p.i + 11) = rvM p 1; rw [rvM_r]; rfl)
noncomputable abbrev rwI (t1 t2 : Bool) : List BRow := [(11, .oi 2, .oi 0, .bool true), (14, .oi 2, .int .i64 0, .bool true), (11, .oi 5, .oi 4, .bool t1), (11, .oi 5, .int .i64 8, .bool t2)]
theorem rwI_ok {t1 t2 : Bool} (h : Ij p) (h1 : decide (p.j < p.rn p.i) = t1) (h2 : decide (p.j < 8) = t2) {l : List BRow} (k : ∀ r ∈ l, IbOk (ivM p) r) : ∀ r ∈ rwI t1 t2 ++ l, IbOk (ivM p) r := by
  have hi := h.i
  exact rLt (a := (p.i : Int)) (b := (p.n : Int)) (rGe (a := (p.i : Int)) (b := 0) (rLt (a := (p.j : Int)) (b := (p.rn p.i : Int)) (rLt (a := (p.j : Int)) (b := 8) k (by exact rfl) (by exact rfl) (by rw [← h2, decide_eq_decide]; omega)) (by exact rfl) (by exact rfl) (by rw [← h1, decide_eq_decide]; omega)))
noncomputable abbrev Rix (t1 t2 : Bool) (h : Ij p) (h1 : decide (p.j < p.rn p.i) = t1) (h2 : decide (p.j < 8) = t2) : Rq p where
  ib := rwI t1 t2 ++ []
  ibok := rwI_ok h h1 h2 ibNil
  fl := [⟨0, 2, 1, 0, [.rw 1]⟩]
  flok := flI0 h (fun _ h => nomatch h)
  rl := [(1, .oi 4)]
  rlok := rlI h
theorem gqx0 (t1 t2 : Bool) (h : Ij p) (h1 : decide (p.j < p.rn p.i) = t1) (h2 : decide (p.j < 8) = t2) (hx : (t1 && t2) = false) : runTo (Rix t1 t2 h h1 h2).T Try.prog Hand.none 3000 ntQ yL (frOf (fsO2 .nils)) (hOf 19000 (bsP1 [])) (.exit 2) (CQ [(18001, 18001), (18002, 18002)] ((.map 0, 0) :: iO)) [] (fsO1 .nils) (bsP1 []) = true := by
  cases t1 <;> cases t2 <;> first | (cases hx; done) | (as_aux_lemma => kernel_rfl)
theorem gqx1 (t1 t2 : Bool) (h : Ij p) (h1 : decide (p.j < p.rn p.i) = t1) (h2 : decide (p.j < 8) = t2) (hx : (t1 && t2) = false) : runTo (Rix t1 t2 h h1 h2).T Try.prog Hand.none 3000 ntQ yL (frOf (fsO2 lsv)) (hOf 19000 (bsP1 bsl)) (.exit 2) (CQ [(18001, 18001), (18002, 18002), (18003, 18003)] ((.map 0, 0) :: iOl)) [(18003, .vec 24, 24)] (fsO1 lsv) (bsP1 bsl) = true := by
  cases t1 <;> cases t2 <;> first | (cases hx; done) | (as_aux_lemma => kernel_rfl)
/- an entry more -/
structure Ie (p : Lm) : Prop extends Ij p where
  j : p.j < p.rn p.i
  j8 : p.j < 8
  t : p.t < 1000
  sl' : p.rk p.i = .slice (some ⟨(p.ra p.i).1, (p.ra p.i).2, none⟩) (p.rn p.i) (p.rc p.i) ∧ p.rn p.i ≤ p.rc p.i
  t0 : ∀ e ∈ p.E0.1, e.1.txt = true
  t2 : ∀ e ∈ p.E2.1, e.1.txt = true
  u0 : p.E1 = mapU p.E0 (.s (K2 p.i p.j)) (p.e p.i p.j)
  u2 : p.E3 = mapU p.E2 (.s (K2 p.i p.j)) (p.e p.i p.j)
theorem flI1 (h : Ie p) : ∀ r ∈ ([⟨0, 2, 1, 0, [.rw 1]⟩, ⟨1, 5, 1, 0, [.oi 11]⟩] : List VL), isLen (ivM p r.k) ∧ ∀ m b, r.l[m]? = some b → ∃ a, fvM p r.i ((ivM p r.k).2.toNat * r.z + r.f + m) = some a ∧ sameT (strM p) (rvM p) (ivM p) a b := by
  refine flI0 h.toIj (allCons ⟨⟨rfl, Int.natCast_nonneg _⟩, fun m b hb => ?_⟩ (fun _ h => nomatch h))
  have hm : m = 0 := by have := (List.getElem?_eq_some_iff.1 hb).1; simpa using this
  subst hm
  cases hb
  refine ⟨.int .i64 (p.e p.i p.j), ?_, ?_⟩
  · show fvM p 1 ((p.j : Int).toNat * 1 + 0 + 0) = _
    rw [show (p.j : Int).toNat * 1 + 0 + 0 = p.j by rw [Int.toNat_natCast]; omega, fvM_1]
    unfold numV
    rw [if_pos h.j]
  · exact sameI (N := NmM p) (q := (.i64, p.e p.i p.j)) (by exact rfl) (by exact rfl)
noncomputable abbrev Rie (h : Ie p) : Rq p where
  ib := rwI true true ++ [(0, .int .i64 97, .oi 2, .oi 7), (0, .int .i64 97, .oi 5, .oi 9), (14, .oi 5, .int .i64 0, .bool true), (0, .oi 12, .int .i64 1, .oi 13), (0, .oi 5, .int .i64 1, .oi 6)]
  ibok := by
    have hi := h.i6; have hj := h.j8; have ht := h.t
    exact rwI_ok h.toIj (decide_eq_true h.j) (decide_eq_true h.j8) (rAdd (a := 97) (b := (p.i : Int)) (c := ((97 + p.i : Nat) : Int)) (rAdd (a := 97) (b := (p.j : Int)) (c := ((97 + p.j : Nat) : Int)) (rGe (a := (p.j : Int)) (b := 0) (rAdd (a := (p.t : Int)) (b := 1) (c := ((p.t + 1 : Nat) : Int)) (rAdd (a := (p.j : Int)) (b := 1) (c := ((p.j + 1 : Nat) : Int)) ibNil)))))
  ic := [(.u8, .oi 7, .oi 8), (.u8, .oi 9, .oi 10)]
  icok := by
    have hi := h.i6; have hj := h.j8
    have w8 : ∀ v : Nat, v < 200 → IntKind.u8.wrap (v : Int) = (v : Int) := fun v hv => by
      unfold IntKind.wrap
      simp [IntKind.min, IntKind.max, IntKind.signed, IntKind.bits] <;> omega
    exact allCons ⟨.i64, ((97 + p.i : Nat) : Int), rfl, by show some ((IntKind.u8, ((97 + p.i : Nat) : Int)) : IntKind × Int) = _; rw [w8 _ (by omega)]⟩ (allCons ⟨.i64, ((97 + p.j : Nat) : Int), rfl, by show some ((IntKind.u8, ((97 + p.j : Nat) : Int)) : IntKind × Int) = _; rw [w8 _ (by omega)]⟩ (fun _ h => nomatch h))
  fl := [⟨0, 2, 1, 0, [.rw 1]⟩, ⟨1, 5, 1, 0, [.oi 11]⟩]
  flok := flI1 h
  rl := [(1, .oi 4)]
  rlok := rlI h.toIj
  rf := [(1, 1, 4, 1)]
  rfok := allCons ⟨⟨rfl, Int.natCast_nonneg _⟩, by show ((p.rn p.i : Int)).toNat ≤ p.rc p.i; rw [Int.toNat_natCast]; exact h.sl'.2, by show p.rk p.i = .slice (some ⟨(p.ra p.i).1, (p.ra p.i).2, none⟩) ((p.rn p.i : Int)).toNat (p.rc p.i); rw [Int.toNat_natCast]; exact h.sl'.1⟩ (fun _ h => nomatch h)
  tr := [(6, [.oi 8, .oi 10], .ostr 2)]
  trok := by
    have hi := h.i6; have hj := h.j8
    have h8 : ∀ v : Nat, v < 200 → ((UInt8.ofNat v).toNat : Int) = (v : Int) := fun v hv => by
      rw [UInt8.toNat_ofNat', Nat.mod_eq_of_lt (by omega)]
    refine allCons ⟨[UInt8.ofNat (97 + p.i), UInt8.ofNat (97 + p.j)], ?_, rfl⟩ (fun _ h => nomatch h)
    show [some ((IntKind.u8, ((97 + p.i : Nat) : Int)) : IntKind × Int), some (.u8, ((97 + p.j : Nat) : Int))] = [some (.u8, ((UInt8.ofNat (97 + p.i)).toNat : Int)), some (.u8, ((UInt8.ofNat (97 + p.j)).toNat : Int))]
    rw [h8 _ (by omega), h8 _ (by omega)]
  mu := [(0, .ostr 2, .oi 11, 1), (2, .ostr 2, .oi 11, 3)]
  muok := allCons ⟨.s (K2 p.i p.j), p.e p.i p.j, rfl, h.t0, rfl, h.u0⟩ (allCons ⟨.s (K2 p.i p.j), p.e p.i p.j, rfl, h.t2, rfl, h.u2⟩ (fun _ h => nomatch h))
noncomputable abbrev iJ (l : IP) : IP := (.map 1, 0) :: (.map 3, 2) :: (.oi 13, 12) :: (.oi 6, 5) :: (.oi 2, 2) :: (.fo 0 0 1, 0) :: (.oi 0, 0) :: (.oi 40, 40) :: l
theorem gqe0 (h : Ie p) : runTo (Rie h).T Try.prog Hand.none 3000 ntQ yL (frOf (fsO2 .nils)) (hOf 19000 (bsP1 [])) .normal (CQ [(18001, 18001), (18002, 18002)] (iJ [])) [] (fsO2 .nils) (bsP1 []) = true := by as_aux_lemma => kernel_rfl
theorem gqe1 (h : Ie p) : runTo (Rie h).T Try.prog Hand.none 3000 ntQ yL (frOf (fsO2 lsv)) (hOf 19000 (bsP1 bsl)) .normal (CQ [(18001, 18001), (18002, 18002), (18003, 18003)] (iJ [(.oi 24, 24)])) [(18003, .vec 24, 24)] (fsO2 lsv) (bsP1 bsl) = true := by as_aux_lemma => kernel_rfl
end
end Go.Proofs.Ytnenjcehicaobaa.pf
