/-
  The reference reads a text of chars: what it answers, whatever the bytes.
-/
import Derived.Test.YtlnkclamdiohnaaGreatDoorFPD
set_option linter.unusedVariables false
set_option linter.unusedSimpArgs false
set_option linter.unusedSectionVars false
set_option maxRecDepth 1000000
set_option maxHeartbeats 0
namespace Go.Proofs.YtlnkclamdiohnaaGreatDoor.fp
open Go.X Go.RowKit Go.Proofs
section
variable {s : ByteArray} {i c : Nat} {B : Kp} {w0 w : World} {μ : M} {a : Act}
def DS (s : ByteArray) (i c : Nat) (B : Kp) (w0 : World) (μ : M) (a : Act) (w : World) : Prop := (c = 0 ∧ D0 s i B w0 μ a w) ∨ (0 < c ∧ D1 s i c B w0 μ a w)
theorem stepD (s : ByteArray) (i : Nat) (hi : i < 2000) (hlt : i < s.size) : (∀ B w0 μ, Base B μ 0 → ∀ c, c ≤ i → ∀ a w, DS s i c B w0 μ a w → dL.wp Tryz.prog (fun e a' w' => e = .ret ∧ DF s i c B w0 μ a' w') a w) ∨
    ∃ i', i < i' ∧ i' ≤ i + 3 ∧ ∀ B w0 μ, Base B μ 0 → ∀ c, c ≤ i → ∀ a w, DS s i c B w0 μ a w → dL.wp Tryz.prog (fun e a' w' => e = .normal ∧ DS s i' (c + 1) B w0 μ a' w') a w := by
  obtain ⟨a1, b1, h1⟩ := cont_ans s (i + 1)
  obtain ⟨a2, b2, h2⟩ := cont_ans s (i + 2)
  cases g1 : decide (byt s i ≥ 1) with
  | true =>
    cases g2 : decide (byt s i ≤ 127) with
    | true =>
      refine .inr ⟨i + 1, by omega, by omega, fun B w0 μ hb c hc a w s' => ?_⟩
      rcases s' with ⟨rfl, s'⟩ | ⟨h0, s'⟩
      · exact wp_mono (goP0 hb hc hi hlt g1 g2 h1 h2 s') (fun e a' w' p => ⟨p.1, .inr ⟨by omega, p.2⟩⟩)
      · exact wp_mono (goP1 hb hc hi hlt g1 g2 h1 h2 s') (fun e a' w' p => ⟨p.1, .inr ⟨by omega, p.2⟩⟩)
    | false =>
      cases m2 : (andv .u8 (byt s i) 224 == 192) with
      | true =>
        cases b1 with
        | true =>
          refine .inr ⟨i + 2, by omega, by omega, fun B w0 μ hb c hc a w s' => ?_⟩
          rcases s' with ⟨rfl, s'⟩ | ⟨h0, s'⟩
          · exact wp_mono (goB210 hb hc hi hlt g1 g2 m2 h1 h2 s') (fun e a' w' p => ⟨p.1, .inr ⟨by omega, p.2⟩⟩)
          · exact wp_mono (goB211 hb hc hi hlt g1 g2 m2 h1 h2 s') (fun e a' w' p => ⟨p.1, .inr ⟨by omega, p.2⟩⟩)
        | false =>
          refine .inl fun B w0 μ hb c hc a w s' => ?_
          rcases s' with ⟨rfl, s'⟩ | ⟨h0, s'⟩
          · exact goB200 hb hc hi hlt g1 g2 m2 h1 h2 s'
          · exact goB201 hb hc hi hlt g1 g2 m2 h1 h2 s'
      | false =>
        cases m3 : (andv .u8 (byt s i) 240 == 224) with
        | true =>
          cases b1 with
          | true =>
            cases b2 with
            | true =>
              refine .inr ⟨i + 3, by omega, by omega, fun B w0 μ hb c hc a w s' => ?_⟩
              rcases s' with ⟨rfl, s'⟩ | ⟨h0, s'⟩
              · exact wp_mono (goB3110 hb hc hi hlt g1 g2 m2 m3 h1 h2 s') (fun e a' w' p => ⟨p.1, .inr ⟨by omega, p.2⟩⟩)
              · exact wp_mono (goB3111 hb hc hi hlt g1 g2 m2 m3 h1 h2 s') (fun e a' w' p => ⟨p.1, .inr ⟨by omega, p.2⟩⟩)
            | false =>
              refine .inl fun B w0 μ hb c hc a w s' => ?_
              rcases s' with ⟨rfl, s'⟩ | ⟨h0, s'⟩
              · exact goB3100 hb hc hi hlt g1 g2 m2 m3 h1 h2 s'
              · exact goB3101 hb hc hi hlt g1 g2 m2 m3 h1 h2 s'
          | false =>
            cases b2 with
            | true =>
              refine .inl fun B w0 μ hb c hc a w s' => ?_
              rcases s' with ⟨rfl, s'⟩ | ⟨h0, s'⟩
              · exact goB3010 hb hc hi hlt g1 g2 m2 m3 h1 h2 s'
              · exact goB3011 hb hc hi hlt g1 g2 m2 m3 h1 h2 s'
            | false =>
              refine .inl fun B w0 μ hb c hc a w s' => ?_
              rcases s' with ⟨rfl, s'⟩ | ⟨h0, s'⟩
              · exact goB3000 hb hc hi hlt g1 g2 m2 m3 h1 h2 s'
              · exact goB3001 hb hc hi hlt g1 g2 m2 m3 h1 h2 s'
        | false =>
          refine .inl fun B w0 μ hb c hc a w s' => ?_
          rcases s' with ⟨rfl, s'⟩ | ⟨h0, s'⟩
          · exact goB00 hb hc hi hlt g1 g2 m2 m3 h1 h2 s'
          · exact goB01 hb hc hi hlt g1 g2 m2 m3 h1 h2 s'
  | false =>
    cases m2 : (andv .u8 (byt s i) 224 == 192) with
    | true =>
      cases b1 with
      | true =>
        refine .inr ⟨i + 2, by omega, by omega, fun B w0 μ hb c hc a w s' => ?_⟩
        rcases s' with ⟨rfl, s'⟩ | ⟨h0, s'⟩
        · exact wp_mono (goA210 hb hc hi hlt g1 m2 h1 h2 s') (fun e a' w' p => ⟨p.1, .inr ⟨by omega, p.2⟩⟩)
        · exact wp_mono (goA211 hb hc hi hlt g1 m2 h1 h2 s') (fun e a' w' p => ⟨p.1, .inr ⟨by omega, p.2⟩⟩)
      | false =>
        refine .inl fun B w0 μ hb c hc a w s' => ?_
        rcases s' with ⟨rfl, s'⟩ | ⟨h0, s'⟩
        · exact goA200 hb hc hi hlt g1 m2 h1 h2 s'
        · exact goA201 hb hc hi hlt g1 m2 h1 h2 s'
    | false =>
      cases m3 : (andv .u8 (byt s i) 240 == 224) with
      | true =>
        cases b1 with
        | true =>
          cases b2 with
          | true =>
            refine .inr ⟨i + 3, by omega, by omega, fun B w0 μ hb c hc a w s' => ?_⟩
            rcases s' with ⟨rfl, s'⟩ | ⟨h0, s'⟩
            · exact wp_mono (goA3110 hb hc hi hlt g1 m2 m3 h1 h2 s') (fun e a' w' p => ⟨p.1, .inr ⟨by omega, p.2⟩⟩)
            · exact wp_mono (goA3111 hb hc hi hlt g1 m2 m3 h1 h2 s') (fun e a' w' p => ⟨p.1, .inr ⟨by omega, p.2⟩⟩)
          | false =>
            refine .inl fun B w0 μ hb c hc a w s' => ?_
            rcases s' with ⟨rfl, s'⟩ | ⟨h0, s'⟩
            · exact goA3100 hb hc hi hlt g1 m2 m3 h1 h2 s'
            · exact goA3101 hb hc hi hlt g1 m2 m3 h1 h2 s'
        | false =>
          cases b2 with
          | true =>
            refine .inl fun B w0 μ hb c hc a w s' => ?_
            rcases s' with ⟨rfl, s'⟩ | ⟨h0, s'⟩
            · exact goA3010 hb hc hi hlt g1 m2 m3 h1 h2 s'
            · exact goA3011 hb hc hi hlt g1 m2 m3 h1 h2 s'
          | false =>
            refine .inl fun B w0 μ hb c hc a w s' => ?_
            rcases s' with ⟨rfl, s'⟩ | ⟨h0, s'⟩
            · exact goA3000 hb hc hi hlt g1 m2 m3 h1 h2 s'
            · exact goA3001 hb hc hi hlt g1 m2 m3 h1 h2 s'
      | false =>
        refine .inl fun B w0 μ hb c hc a w s' => ?_
        rcases s' with ⟨rfl, s'⟩ | ⟨h0, s'⟩
        · exact goA00 hb hc hi hlt g1 m2 m3 h1 h2 s'
        · exact goA01 hb hc hi hlt g1 m2 m3 h1 h2 s'
theorem ibX (h : ¬ i < s.size) : ∀ r ∈ ([(11, .oi 1, .oi 0, .bool false)] : List BRow), IbOk (ivD s i c 0 0) r := ibCons (ibB (op := .lss) rfl rfl (k := .i64) (a := (i : Int)) (b := (s.size : Int)) rfl rfl (tB (decide_eq_false (by omega)))) ibNil
noncomputable abbrev TX (s : ByteArray) (i c : Nat) (h : ¬ i < s.size) : Tab := RT (ivD s i c 0 0) (fun _ => s) _ (ibX h) [] icNil [(0, [.ostr 0], .oi 0)] (txCons (trLen rfl) txNil) [] allNil
theorem out0 (hb : Base B μ 0) (h : ¬ i < s.size) (s' : D0 s i B w0 μ a w) : dL.wp Tryz.prog (fun e a' w' => e = .exit 0 ∧ D0 s i B w0 μ a' w') a w :=
  runTo_sound (fr := frOf (fsD .nils)) (h := hOf 0 []) (T := TX s i 0 h) (T' := plD s i 0 0 0) (K := Hand.none) (n := 100) mixed (@HandOk.none (TX s i 0 h) Tryz.prog) (C := (⟨0, 0, ofPairs [], [(.ostr 0, 0), (.oi 1, 1)]⟩ : Cv)) (rl := []) (ex := .exit 0) (vp := []) (fs := fsD .nils) (bs := [])
    hb (Nat.zero_le _) rfl (by kernel_rfl) (ipCons (ipS rfl) (ipCons (ipO (.i64, (i : Int)) rfl rfl) ipNil)) vpNil (glNone rfl rfl) (by as_aux_lemma => kernel_rfl) (St.same sameRT s')
theorem out1 (hb : Base B μ 0) (h : ¬ i < s.size) (s' : D1 s i c B w0 μ a w) : dL.wp Tryz.prog (fun e a' w' => e = .exit 0 ∧ D1 s i c B w0 μ a' w') a w :=
  runTo_sound (fr := frOf (fsD (.ov 0 2 1))) (h := hOf 1 (bV 0)) (T := TX s i c h) (T' := plD s i c 0 0) (K := Hand.none) (n := 100) mixed (@HandOk.none (TX s i c h) Tryz.prog) (C := (⟨0, 1, ofPairs [(0, 0)], [(.ostr 0, 0), (.oi 1, 1), (.oi 2, 2)]⟩ : Cv)) (rl := [(0, 0)]) (ex := .exit 0) (vp := [(0, .vec 0, 0)]) (fs := fsD (.ov 0 2 1)) (bs := bV 0)
    hb (Nat.zero_le _) rfl (by kernel_rfl) (ipCons (ipS rfl) (ipCons (ipO (.i64, (i : Int)) rfl rfl) (ipCons (ipO (.i64, (c : Int)) rfl rfl) ipNil))) (vpCons (toVec rfl (fun _ => rfl) rfl) vpNil) (glNone rfl rfl) (by as_aux_lemma => kernel_rfl) (St.same sameRT s')
theorem end0 (hb : Base B μ 0) (s' : D0 s i B w0 μ a w) : dT.wp Tryz.prog (fun e a' w' => e = .ret ∧ St (plD s 0 0 0 0) B w0 μ Tryz.f34.ntmps (frOf [(2, .nils), (3, .bool true)]) (hOf 0 []) a' w') a w :=
  runTo_sound (fr := frOf (fsD .nils)) (h := hOf 0 []) (T := plD s i 0 0 0) (T' := plD s 0 0 0 0) (K := Hand.none) (n := 100) mixed (@HandOk.none (plD s i 0 0 0) Tryz.prog) (C := (⟨0, 0, ofPairs [], []⟩ : Cv)) (rl := []) (ex := .ret) (vp := []) (fs := [(2, .nils), (3, .bool true)]) (bs := [])
    hb (Nat.zero_le _) rfl (by kernel_rfl) ipNil vpNil (glNone rfl rfl) (by as_aux_lemma => kernel_rfl) s'
theorem end1 (hb : Base B μ 0) (s' : D1 s i c B w0 μ a w) : dT.wp Tryz.prog (fun e a' w' => e = .ret ∧ St (plD s 0 c 0 0) B w0 μ Tryz.f34.ntmps (frOf [(2, .ov 0 2 1), (3, .bool true)]) (hOf 1 (bV 0)) a' w') a w :=
  runTo_sound (fr := frOf (fsD (.ov 0 2 1))) (h := hOf 1 (bV 0)) (T := plD s i c 0 0) (T' := plD s 0 c 0 0) (K := Hand.none) (n := 100) mixed (@HandOk.none (plD s i c 0 0) Tryz.prog) (C := (⟨0, 1, ofPairs [(0, 0)], [(.oi 2, 2)]⟩ : Cv)) (rl := [(0, 0)]) (ex := .ret) (vp := [(0, .vec 0, 0)]) (fs := [(2, .ov 0 2 1), (3, .bool true)]) (bs := bV 0)
    hb (Nat.zero_le _) rfl (by kernel_rfl) (ipCons (ipO (.i64, (c : Int)) rfl rfl) ipNil) (vpCons (toVec rfl (fun _ => rfl) rfl) vpNil) (glNone rfl rfl) (by as_aux_lemma => kernel_rfl) s'
def QD (s : ByteArray) (o : Bool) (c : Nat) (B : Kp) (w0 : World) (μ : M) (e : Exit) (a : Act) (w : World) : Prop :=
  (o = false ∧ e = .ret ∧ ∃ i c, DF s i c B w0 μ a w) ∨ (o = true ∧ c = 0 ∧ e = .exit 0 ∧ ∃ i, D0 s i B w0 μ a w) ∨ (o = true ∧ 0 < c ∧ e = .exit 0 ∧ ∃ i, D1 s i c B w0 μ a w)
theorem roundsD (hs : s.size < 1900) : ∀ j i, s.size ≤ i + j → i ≤ s.size + 2 → ∃ (o : Bool) (k : Nat), ∀ B w0 μ, Base B μ 0 → ∀ c, c ≤ i → ∀ a w, DS s i c B w0 μ a w → Code.rounds Tryz.prog dL (QD s o (c + k) B w0 μ) (j + 1) a w := by
  intro j
  induction j with
  | zero =>
    intro i h1 h2
    have h : ¬ i < s.size := by omega
    refine ⟨true, 0, fun B w0 μ hb c hc a w s' => ?_⟩
    rcases s' with ⟨rfl, s'⟩ | ⟨h0, s'⟩
    · refine rounds_of (wp_mono (out0 hb h s') ?_)
      rintro e a' w' ⟨rfl, s2⟩
      exact .inr (.inl ⟨rfl, rfl, rfl, i, s2⟩)
    · refine rounds_of (wp_mono (out1 hb h s') ?_)
      rintro e a' w' ⟨rfl, s2⟩
      exact .inr (.inr ⟨rfl, by omega, rfl, i, s2⟩)
  | succ j ih =>
    intro i h1 h2
    by_cases h : i < s.size
    · rcases stepD s i (by omega) h with hf | ⟨i', h3, h4, hg⟩
      · refine ⟨false, 0, fun B w0 μ hb c hc a w s' => ?_⟩
        refine rounds_of (wp_mono (hf B w0 μ hb c hc a w s') ?_)
        rintro e a' w' ⟨rfl, s2⟩
        exact .inl ⟨rfl, rfl, i, c, s2⟩
      · obtain ⟨o, k, hr⟩ := ih i' (by omega) (by omega)
        refine ⟨o, k + 1, fun B w0 μ hb c hc a w s' => ?_⟩
        refine rounds_of (wp_mono (hg B w0 μ hb c hc a w s') ?_)
        rintro e a' w' ⟨rfl, s2⟩
        have := hr B w0 μ hb (c + 1) (by omega) a' w' s2
        rw [show c + 1 + k = c + (k + 1) by omega] at this
        exact this
    · refine ⟨true, 0, fun B w0 μ hb c hc a w s' => ?_⟩
      rcases s' with ⟨rfl, s'⟩ | ⟨h0, s'⟩
      · refine rounds_of (wp_mono (out0 hb h s') ?_)
        rintro e a' w' ⟨rfl, s2⟩
        exact .inr (.inl ⟨rfl, rfl, rfl, i, s2⟩)
      · refine rounds_of (wp_mono (out1 hb h s') ?_)
        rintro e a' w' ⟨rfl, s2⟩
        exact .inr (.inr ⟨rfl, by omega, rfl, i, s2⟩)
theorem firstD (k : Nat) : firstTo (plD s 0 k 0 0) Tryz.prog Hand.none 100 Tryz.f34.ntmps 2 db (T.ofList 0 .leaf [.ostr 0]) H.empty (⟨0, 0, ofPairs [], [(.ostr 0, 0)]⟩ : Cv) [] [(0, .ostr 0), (4, .nils)] [] = true := by kernel_rfl
theorem startD (hb : Base B μ 0) (s' : St (plD s 0 0 0 0) B w0 μ Tryz.f34.ntmps (frOf [(0, .ostr 0), (4, .nils)]) (hOf 0 []) a w) : dA.wp Tryz.prog (fun e a' w' => e = .normal ∧ D0 s 0 B w0 μ a' w') a w :=
  runTo_sound (T := plD s 0 0 0 0) (T' := plD s 0 0 0 0) (K := Hand.none) (n := 100) mixed (@HandOk.none (plD s 0 0 0 0) Tryz.prog) (C := (⟨0, 0, ofPairs [], [(.ostr 0, 0), (.int .i64 0, 1)]⟩ : Cv)) (rl := []) (ex := .normal) (vp := []) (fs := fsD .nils) (bs := [])
    hb (Nat.zero_le _) rfl (by kernel_rfl) (ipCons (ipS rfl) (ipCons (ipC rfl) ipNil)) vpNil (glNone rfl rfl) (by as_aux_lemma => kernel_rfl) s'
theorem loopD {o : Bool} {k m : Nat} {v : AV} {h' : H} (hb : Base B μ 0) (hr : ∀ a w, DS s 0 0 B w0 μ a w → Code.rounds Tryz.prog dL (QD s o (0 + k) B w0 μ) (m + 1) a w)
    (hT : ∀ e a w, QD s o (0 + k) B w0 μ e a w → (e = .ret ∧ @Done (plD s 0 k 0 0) Tryz.prog Tryz.f34 B w0 μ v h' .ret a w) ∨ (e = .exit 0 ∧ dT.wp Tryz.prog (@Done (plD s 0 k 0 0) Tryz.prog Tryz.f34 B w0 μ v h') a w))
    (s' : St (plD s 0 k 0 0) B w0 μ Tryz.f34.ntmps (T.ofList 0 .leaf [.ostr 0]) H.empty a w) : db.wp Tryz.prog (@Done (plD s 0 k 0 0) Tryz.prog Tryz.f34 B w0 μ v h') a w := by
  refine firstTo_sound (T := plD s 0 k 0 0) (T' := plD s 0 0 0 0) (K := Hand.none) (m := 100) (n := 2) mixed (@HandOk.none (plD s 0 k 0 0) Tryz.prog) (C := (⟨0, 0, ofPairs [], [(.ostr 0, 0)]⟩ : Cv)) (rl := []) (vp := []) (fs := [(0, .ostr 0), (4, .nils)]) (bs := [])
    hb (Nat.le_refl _) rfl (by kernel_rfl) (ipCons (ipS rfl) ipNil) vpNil (glNone rfl rfl) (firstD k) s' fun a1 w1 s1 => ?_
  rw [d_eq]
  refine wp_seq (wp_seq (wp_mono (startD hb s1) ?_))
  rintro e a2 w2 ⟨rfl, s2⟩
  show (Code.block 0 (.loop dL)).wp _ _ _ _
  refine wp_block (wp_mono (wp_loop_rounds (Q := QD s o (0 + k) B w0 μ) (m + 1) (hr a2 w2 (.inl ⟨rfl, s2⟩))) ?_)
  intro e a3 w3 q
  rcases hT e a3 w3 q with ⟨rfl, d⟩ | ⟨rfl, d⟩
  · exact d
  · exact d
end
theorem resF (h : H) : results? Tryz.prog Tryz.f34 (frOf [(2, .nils), (3, .bool false)]) h = some (.tup [.nils, .bool false]) := by kernel_rfl
theorem resT (h : H) : results? Tryz.prog Tryz.f34 (frOf [(2, .nils), (3, .bool true)]) h = some (.tup [.nils, .bool true]) := by kernel_rfl
theorem resV (h : H) : results? Tryz.prog Tryz.f34 (frOf [(2, .ov 0 2 1), (3, .bool true)]) h = some (.tup [.ov 0 2 1, .bool true]) := by kernel_rfl
/-- a fresh slice of so many chars, and true -/
def DecW (s : ByteArray) (L : Nat) : Prop := ∀ w : World, Calls Tryz.prog 34 #[.string s] w fun e w' => ∃ b base cap, e = .returned (.tuple #[.slice (some ⟨b, base, none⟩) L cap, .bool true]) ∧ Below w.heap.size w w' ∧ w.heap.size ≤ b ∧ L ≤ cap ∧ ∃ arr el fz, w'.heap[b]? = some (.cells arr el fz) ∧ arr.size = base + cap ∧ ∀ i, i < base + cap → ¬ (fz.1 ≤ i ∧ i < fz.2)
theorem dec_out (s : ByteArray) (hs : s.size < 1900) : Ans 34 #[.string s] (.tuple #[.slice none 0 0, .bool false]) ∨ Ans 34 #[.string s] (.tuple #[.slice none 0 0, .bool true]) ∨ ∃ L, DecW s L := by
  obtain ⟨o, k, hr⟩ := roundsD hs s.size 0 (by omega) (by omega)
  cases o with
  | false =>
    refine .inl ?_
    letI : Tab := plD s 0 k 0 0
    refine ans_of (args := [.ostr 0]) (a := .tup [.nils, .bool false]) (q := hOf 0 []) ?_ (tup2 isNils isBool) (vrels_cons (by simp only [vrel]; rfl) (by simp [vrels])) rfl rfl
    refine @callOk_of Tryz.prog (plD s 0 k 0 0) 34 Tryz.f34 db [.ostr 0] H.empty _ _ Tryz.func34 db_eq (show 1 ≤ Tryz.f34.ntmps by decide +kernel) (show 1 < limit by decide) fun B w0 μ a w hb s' => ?_
    refine loopD hb (fun a w q => hr B w0 μ hb 0 (Nat.zero_le _) a w q) (fun e a w q => ?_) s'
    rcases q with ⟨_, rfl, i, c, s2⟩ | ⟨h, _⟩ | ⟨h, _⟩
    · refine .inl ⟨rfl, ?_⟩
      have s3 : St (plD s 0 k 0 0) B w0 μ Tryz.f34.ntmps (frOf [(2, .nils), (3, .bool false)]) (hOf 0 []) a w := St.weak (T := plD s i c 0 0) (T' := plD s 0 k 0 0) (fr := frOf [(2, .nils), (3, .bool false)]) (h := hOf 0 []) (fs := [(2, .nils), (3, .bool false)]) (bs := []) (C := (⟨0, 0, ofPairs [], []⟩ : Cv)) (rl := []) (vp := []) hb (Nat.zero_le _) rfl (by kernel_rfl) ipNil vpNil (glNone rfl rfl) (by kernel_rfl) (by kernel_rfl) s2
      exact St.done (τ := plD s 0 k 0 0) (e := .ret) (.inr rfl) (resF _) s3
    · cases h
    · cases h
  | true =>
    refine .inr ?_
    by_cases hk : k = 0
    · subst hk
      refine .inl ?_
      letI : Tab := plD s 0 0 0 0
      refine ans_of (args := [.ostr 0]) (a := .tup [.nils, .bool true]) (q := hOf 0 []) ?_ (tup2 isNils isBool) (vrels_cons (by simp only [vrel]; rfl) (by simp [vrels])) rfl rfl
      refine @callOk_of Tryz.prog (plD s 0 0 0 0) 34 Tryz.f34 db [.ostr 0] H.empty _ _ Tryz.func34 db_eq (show 1 ≤ Tryz.f34.ntmps by decide +kernel) (show 1 < limit by decide) fun B w0 μ a w hb s' => ?_
      refine loopD hb (fun a w q => hr B w0 μ hb 0 (Nat.zero_le _) a w q) (fun e a w q => ?_) s'
      rcases q with ⟨h, _⟩ | ⟨_, _, rfl, i, s2⟩ | ⟨_, h, _⟩
      · cases h
      · refine .inr ⟨rfl, wp_mono (end0 hb s2) ?_⟩
        rintro e a4 w4 ⟨rfl, s4⟩
        exact St.done (τ := plD s 0 0 0 0) (e := .ret) (.inr rfl) (resT _) s4
      · exact absurd h (by omega)
    · refine .inr ⟨k, fun w => ?_⟩
      letI : Tab := plD s 0 k 0 0
      have o : @CallOk (plD s 0 k 0 0) Tryz.prog 34 [.ostr 0] H.empty (.tup [.ov 0 2 1, .bool true], hOf 1 (bV 0)) := by
        refine @callOk_of Tryz.prog (plD s 0 k 0 0) 34 Tryz.f34 db [.ostr 0] H.empty _ _ Tryz.func34 db_eq (show 1 ≤ Tryz.f34.ntmps by decide +kernel) (show 1 < limit by decide) fun B w0 μ a w hb s' => ?_
        refine loopD hb (fun a w q => hr B w0 μ hb 0 (Nat.zero_le _) a w q) (fun e a w q => ?_) s'
        rcases q with ⟨h, _⟩ | ⟨_, h, _⟩ | ⟨_, _, rfl, i, s2⟩
        · cases h
        · exact absurd h (by omega)
        · rw [Nat.zero_add] at s2
          refine .inr ⟨rfl, wp_mono (end1 hb s2) ?_⟩
          rintro e a4 w4 ⟨rfl, s4⟩
          exact St.done (τ := plD s 0 k 0 0) (e := .ret) (.inr rfl) (resV _) s4
      refine (o.closed (args' := #[.string s]) (vrels_cons (by simp only [vrel]; rfl) (by simp [vrels])) w (gl_none rfl rfl)).mono ?_
      rintro e w' ⟨v', μ', rfl, hr', r⟩
      have hr2 : vrel μ' (.tup [.ov 0 2 1, .bool true]) v' := hr'
      simp only [vrel] at hr2
      obtain ⟨cs, rfl, v1, l1, rfl, g1, v2, l2, rfl, g2, g3⟩ := hr2
      have e3 : l2 = [] := g3
      subst e3
      have g1' : vrel μ' (.ov 0 2 1) v1 := g1
      have g2' : vrel μ' (.bool true) v2 := g2
      simp only [vrel] at g1' g2'
      obtain ⟨_, l, cap, q1, q2, q3, rfl⟩ := g1'
      have r' : HR (Kp.below w.heap.size) w μ' (hOf 1 (bV 0)) w' := r
      obtain ⟨l', k1, k2, _, k4⟩ := r'.blk 0 (.vec 0) rfl
      rw [q1] at k1; cases k1
      obtain ⟨arr, el, fz, m1, m2, m3, m4, m5⟩ := k4
      have eL : (Tab.iv 2).2.toNat = k := by show ((k : Nat) : Int).toNat = k; simp
      rw [eL] at q2 ⊢
      have hlt : w.heap.size ≤ l.block := Nat.le_of_not_lt (k2 rfl)
      rw [g2']
      have hz : l.base + cap = l.total := by omega
      exact ⟨l.block, l.base, cap, rfl, r'.below.toBelow, hlt, q2, arr, el, fz, m1, by rw [hz]; exact m2, by rw [hz]; exact m3⟩
end Go.Proofs.YtlnkclamdiohnaaGreatDoor.fp
