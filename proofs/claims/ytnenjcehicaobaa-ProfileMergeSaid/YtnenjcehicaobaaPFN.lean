/-
  The laws of profile: Merge: rows come out: rows of tables, runs.
-/
import Derived.Test.YtnenjcehicaobaaPFK
set_option linter.unusedVariables false
set_option linter.unusedSimpArgs false
set_option linter.unusedSectionVars false
set_option maxRecDepth 1000000
set_option maxHeartbeats 0
namespace Go.Proofs.Ytnenjcehicaobaa.pf
open Go.X Go.RowKit Go.Proofs
section
variable {p : Pm}
theorem rLtN (n m : Nat) {j k : Nat} {l : List BRow} (hj : ivP p j = (.i64, (n : Int))) (hk : ivP p k = (.i64, (m : Int))) (h : n < m) (t : ∀ r ∈ l, IbOk (ivP p) r) : ∀ r ∈ (11, .oi j, .oi k, .bool true) :: l, IbOk (ivP p) r :=
  rLt (a := (n : Int)) (b := (m : Int)) t (by show some (ivP p j) = _; rw [hj]) (by show some (ivP p k) = _; rw [hk]) (decide_eq_true (by omega))
/-- does it go on? -/
noncomputable abbrev RCv (t u : Bool) (ht : decide ((p.o : Int) < p.K) = t) (hu : decide (0 < p.N) = u) : Rz p where
  ib := [(11, .oi 30, .oi 40, .bool t), (13, .oi 22, .int .i64 0, .bool u)]
  ibok := rLt (a := (p.o : Int)) (b := p.K) (rGt (a := (p.N : Int)) (b := 0) ibNil (by exact rfl) (by exact rfl) (by rw [← hu, decide_eq_decide]; omega)) (by exact rfl) (by exact rfl) ht
noncomputable abbrev RCn (t u : Bool) (ht : decide ((0 : Int) < p.K) = t) (hu : decide (0 < p.N) = u) : Rz p where
  ib := [(11, .int .i64 0, .oi 40, .bool t), (13, .oi 22, .int .i64 0, .bool u)]
  ibok := rLt (a := 0) (b := p.K) (rGt (a := (p.N : Int)) (b := 0) ibNil (by exact rfl) (by exact rfl) (by rw [← hu, decide_eq_decide]; omega)) (by exact rfl) (by exact rfl) ht
noncomputable abbrev fsM5v : List (Nat × AV) := [(0, .oi 40), (5, .ptr 20001 0), (8, .ov 20003 30 2)]
noncomputable abbrev bsO (x v o : Nat) : BS := (20003, x, .vec o) :: bsC v
noncomputable abbrev i5 : IP := [(.oi 22, 22), (.oi 40, 40)]
noncomputable abbrev i5v : IP := (.oi 30, 30) :: i5
noncomputable abbrev C5 (ip : IP) : Cv := CM [(20001, 20001), (20002, 20002)] ip
noncomputable abbrev C5v (x : Nat) (ip : IP) : Cv := CM [(20001, 20001), (20002, 20002), (20003, x)] ip
noncomputable abbrev v5 (v : Nat) : VP := [(20002, .vec v, 10)]
noncomputable abbrev v5v (v : Nat) : VP := (20003, .vec 30, 30) :: v5 v
theorem gCnt (ht : decide ((0 : Int) < p.K) = true) (hu : decide (0 < p.N) = true) : runTo (RCn true true ht hu).T Try.prog Hand.none 3000 ntM m5a (frOf fsM5) (hOf 20010 (bsC 10)) .normal (C5 i5) (v5 10) fsM5 (bsC 10) = true := by as_aux_lemma => kernel_rfl
theorem gCnf (u : Bool) (ht : decide ((0 : Int) < p.K) = false) (hu : decide (0 < p.N) = u) : runTo (RCn false u ht hu).T Try.prog Hand.none 3000 ntM m5a (frOf fsM5) (hOf 20010 (bsC 10)) (.exit 2) (CM [] []) [] [(8, .nils)] [] = true := by cases u <;> as_aux_lemma => kernel_rfl
theorem gCvt (ht : decide ((p.o : Int) < p.K) = true) (hu : decide (0 < p.N) = true) : runTo (RCv true true ht hu).T Try.prog Hand.none 3000 ntM m5a (frOf fsM5v) (hOf 20010 (bsO 20003 10 30)) .normal (C5v 20003 i5v) (v5v 10) fsM5v (bsO 20003 10 30) = true := by as_aux_lemma => kernel_rfl
noncomputable abbrev CX : Cv := CM [(20003, 20003)] [(.oi 30, 30)]
noncomputable abbrev fsX : List (Nat × AV) := [(8, .ov 20003 30 2)]
theorem gCvf (u : Bool) (ht : decide ((p.o : Int) < p.K) = false) (hu : decide (0 < p.N) = u) : runTo (RCv false u ht hu).T Try.prog Hand.none 3000 ntM m5a (frOf fsM5v) (hOf 20010 (bsO 20003 10 30)) (.exit 2) CX [(20003, .vec 30, 30)] fsX [(20003, 20003, .vec 30)] = true := by cases u <;> as_aux_lemma => kernel_rfl
theorem gCve (ht : decide ((p.o : Int) < p.K) = true) (hu : decide (0 < p.N) = false) : runTo (RCv true false ht hu).T Try.prog Hand.none 3000 ntM m5a (frOf fsM5v) (hOf 20010 (bsO 20003 10 30)) (.exit 2) CX [(20003, .vec 30, 30)] fsX [(20003, 20003, .vec 30)] = true := by as_aux_lemma => kernel_rfl
/- the head's first row is out -/
structure Hk (p : Pm) : Prop where
  g : Gok p.G
  N0 : 0 < p.N
  N1 : p.N < 1000000
  l : 0 < p.G.len (p.it 0)
structure Hok (p : Pm) : Prop extends Hk p where
  o : p.o + 1 < 1000000
  R : p.R p.o = p.G.row (p.it 0)
noncomputable abbrev rwH : List BRow := [(11, .oi 10, .oi 22, .bool true), (11, .oi 10, .oi 1013, .bool true), (14, .oi 10, .int .i64 0, .bool true)]
theorem rwH_ok (h : Hk p) {l : List BRow} (t : ∀ r ∈ l, IbOk (ivP p) r) : ∀ r ∈ rwH ++ l, IbOk (ivP p) r :=
  rLtN 0 p.N (by exact rfl) (by exact rfl) h.N0 (rLen 4 h.l (by exact rfl) (rGe0 0 (by exact rfl) t))
theorem vlH (h : Hk p) {l : List VL} (t : ∀ r ∈ l, VlT (NmP p) (vvP p) r) : ∀ r ∈ (⟨10, 10, 1, 0, [.rw 4]⟩ : VL) :: l, VlT (NmP p) (vvP p) r :=
  gL (q := 0) (n := p.N) (e := cq p.it) t (by exact rfl) (by exact rfl) h.N0 (sameH' (by exact rfl))
theorem co_even {m : Nat} : co (2 * m) = .ostr (2 * m + 1) := by unfold co; rw [if_pos (by omega), show 2 * m / 2 = m by omega]
theorem co_odd {m : Nat} : co (2 * m + 1) = .oi (1002 + 3 * m) := by unfold co; rw [if_neg (by omega), show (2 * m + 1) / 2 = m by omega]
theorem vaH (h : Hok p) : ∀ r ∈ ([⟨30, 30, 2, [.ostr 8, .oi 1012], 31, 31⟩] : List VA), VaT (NmP p) (vvP p) (vlP p) r := by
  have h1 := h.o
  refine allCons ⟨⟨rfl, Int.natCast_nonneg _⟩, ⟨rfl, Int.natCast_nonneg _⟩, ?_, ?_, ?_, fun m a ha => ?_⟩ (fun _ h => nomatch h)
  · show ((p.o + 1 : Nat) : Int).toNat * 2 = ((p.o : Int)).toNat * 2 + 2
    rw [Int.toNat_natCast, Int.toNat_natCast]; omega
  · show ((p.o + 1 : Nat) : Int).toNat < 1000000
    rw [Int.toNat_natCast]; exact h1
  · show 2 * (p.o + 1) ≤ ((p.o + 1 : Nat) : Int).toNat * 2
    rw [Int.toNat_natCast]; omega
  · have ha : celV (2 * (p.o + 1)) co m = some a := ha
    obtain ⟨hm, rfl⟩ := celV_some ha
    show ∃ b, (if m < ((p.o : Int)).toNat * 2 then celV (2 * p.o) co m else ([.ostr 8, .oi 1012] : List AV)[m - ((p.o : Int)).toNat * 2]?) = some b ∧ _
    rw [Int.toNat_natCast]
    by_cases c : m < p.o * 2
    · exact ⟨co m, by rw [if_pos c]; exact celV_lt (by omega), sameR⟩
    · rw [if_neg c]
      by_cases d : m = 2 * p.o
      · subst d
        refine ⟨.ostr 8, by rw [show 2 * p.o - p.o * 2 = 0 by omega]; rfl, ?_⟩
        rw [co_even]
        exact sameS (s := (p.G.row (p.it 0)).1) (by show some (strP p (2 * 4)) = _; rw [str_txt]) (by show some (strP p (2 * p.o + 1)) = _; rw [str_out, h.R])
      · have d : m = 2 * p.o + 1 := by omega
        subst d
        refine ⟨.oi 1012, by rw [show 2 * p.o + 1 - p.o * 2 = 1 by omega]; rfl, ?_⟩
        rw [co_odd]
        exact sameI (q := (.i64, (p.G.row (p.it 0)).2)) (by show some (ivP p (1000 + 3 * 4)) = _; rw [iv_cnt]) (by show some (ivP p (1002 + 3 * p.o)) = _; rw [iv_out, h.R])
noncomputable abbrev RH (h : Hok p) : Rz p where
  ib := rwH ++ []
  ibok := rwH_ok h.toHk ibNil
  vl := [⟨10, 10, 1, 0, [.rw 4]⟩]
  vlok := vlH h.toHk (fun _ h => nomatch h)
  va := [⟨30, 30, 2, [.ostr 8, .oi 1012], 31, 31⟩]
  vaok := vaH h
  rf := [(4, 4, 1013, 2)]
  rfok := rfC h.g (by exact rfl) h.l (fun _ h => nomatch h)
  fl := [⟨4, 10, 2, 0, [.ostr 8, .oi 1012]⟩]
  flok := flC rfl rfl h.l (fun _ h => nomatch h)
  vc := [(0, 10)]
  vcok := vc0
noncomputable abbrev zH : Blk := rowOf [.ostr 8, .oi 1012] true
theorem gHn (h : Hok p) : runTo (RH h).T Try.prog Hand.none 3000 ntM m5b (frOf fsM5) (hOf 20010 (bsC 10)) .normal (C5v 20011 ((.int .i64 1, 30) :: i5)) ((20011, zH, 30) :: v5 10) fsM5v (bsO 20011 10 30) = true := by as_aux_lemma => kernel_rfl
theorem gHv (h : Hok p) : runTo (RH h).T Try.prog Hand.none 3000 ntM m5b (frOf fsM5v) (hOf 20010 (bsO 20003 10 30)) .normal (C5v 20011 ((.oi 31, 30) :: i5)) ((20011, .vec 31, 30) :: v5 10) fsM5v (bsO 20011 10 30) = true := by as_aux_lemma => kernel_rfl
end
end Go.Proofs.Ytnenjcehicaobaa.pf
