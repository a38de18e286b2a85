/-
  The reference asks whether a text is a class's name: it answers, whatever the bytes.
-/
import Derived.Test.YtlnkclamdiohnaaGreatDoorFPP
set_option linter.unusedVariables false
set_option linter.unusedSimpArgs false
set_option linter.unusedSectionVars false
set_option maxRecDepth 1000000
set_option maxHeartbeats 0
namespace Go.Proofs.YtlnkclamdiohnaaGreatDoor.fp
open Go.X Go.RowKit Go.Proofs
noncomputable abbrev ivK (s : ByteArray) (i f : Nat) : Nat → IntKind × Int
  | 0 => (.i64, (s.size : Int))
  | 1 => (.i64, (i : Int))
  | 2 => (.i64, (f : Int))
  | 3 => (.i64, ((i + 1 : Nat) : Int))
  | _ => (.u8, byt s i)
abbrev strK (s : ByteArray) (i f : Nat) : Nat → ByteArray
  | 0 => s
  | _ => s.extract f i
noncomputable def kb : Code := codeOf Tryz.f17
theorem kb_eq : Tryz.f17.body = some kb := by kernel_rfl
noncomputable def kA : Code := hd (hd (restn 3 kb))
noncomputable def kL : Code := lpIn (tl (hd (restn 3 kb)))
noncomputable def kT : Code := tl (restn 3 kb)
theorem k_eq : restn 3 kb = .seq (.seq kA (.block 0 (.loop kL))) kT := by kernel_rfl
noncomputable abbrev plK (s : ByteArray) (i f : Nat) : Tab := plT (ivK s i f) (strK s i f)
section
variable {s : ByteArray} {i f : Nat} {B : Kp} {w0 w : World} {μ : M} {a : Act}
noncomputable abbrev fsK : List (Nat × AV) := [(0, .ostr 0), (3, .oi 2), (4, .oi 1)]
def KS (s : ByteArray) (i f : Nat) (B : Kp) (w0 : World) (μ : M) (a : Act) (w : World) : Prop := St (plK s i f) B w0 μ Tryz.f17.ntmps (frOf fsK) (hOf 0 []) a w
def KRt (s : ByteArray) (b : Bool) (B : Kp) (w0 : World) (μ : M) (a : Act) (w : World) : Prop := St (plK s 0 0) B w0 μ Tryz.f17.ntmps (frOf [(2, .bool b)]) (hOf 0 []) a w
def KE (s : ByteArray) (B : Kp) (w0 : World) (μ : M) (a : Act) (w : World) : Prop := St (plK s 0 0) B w0 μ Tryz.f17.ntmps (frOf []) (hOf 0 []) a w
theorem ibKN (hi : i < 2000) (hf : f ≤ i) (hlt : i < s.size) (e0 : (byt s i == 47) = false) : ∀ r ∈ ([(12, .oi 1, .oi 0, .bool true), (9, .oi 1, .oi 0, .bool false), (9, .oi 4, .int .u8 47, .bool false), (0, .oi 1, .int .i64 1, .oi 3)] : List BRow), IbOk (ivK s i f) r := by
  letI := Tab.empty
  exact (ibCons (ibB (op := .leq) rfl rfl (k := .i64) (a := (i : Int)) (b := (s.size : Int)) rfl rfl (tB (decide_eq_true (by omega)))) (ibCons (ibB (op := .eql) rfl rfl (k := .i64) (a := (i : Int)) (b := (s.size : Int)) rfl rfl (tB (beq_false_of_ne (by omega)))) (ibCons (ibB (op := .eql) rfl rfl (k := .u8) (a := byt s i) (b := 47) rfl rfl (tB e0)) (ibCons (ibAdd (a := (i : Int)) (b := 1) (c := ((i + 1 : Nat) : Int)) rfl rfl rfl (by omega) (by omega) (by omega)) ibNil))))
theorem goKN (hb : Base B μ 0) (hi : i < 2000) (hf : f ≤ i) (hlt : i < s.size) (e0 : (byt s i == 47) = false)  (s' : KS s i f B w0 μ a w) : kL.wp Tryz.prog (fun e a' w' => e = .normal ∧ KS s (i + 1) f B w0 μ a' w') a w :=
  runTo_sound (fr := frOf fsK) (h := hOf 0 []) (T := (RT (ivK s i f) (strK s i f) _ (ibKN hi hf hlt e0) [] icNil [(0, [.ostr 0], .oi 0), (1, [.ostr 0, .oi 1], .oi 4)] (txCons (trLen rfl) (txCons (trAt (m := i) rfl rfl hlt) txNil)) [] allNil)) (T' := plK s (i + 1) f) (K := Hand.none) (n := 100) mixed (@HandOk.none (RT (ivK s i f) (strK s i f) _ (ibKN hi hf hlt e0) [] icNil [(0, [.ostr 0], .oi 0), (1, [.ostr 0, .oi 1], .oi 4)] (txCons (trLen rfl) (txCons (trAt (m := i) rfl rfl hlt) txNil)) [] allNil) Tryz.prog) (C := (⟨0, 0, ofPairs [], [(.ostr 0, 0), (.oi 3, 1), (.oi 2, 2)]⟩ : Cv)) (rl := []) (ex := .normal) (vp := []) (fs := fsK) (bs := [])
    hb (Nat.zero_le _) rfl (by kernel_rfl) (ipCons (ipS rfl) (ipCons (ipO (.i64, ((i + 1 : Nat) : Int)) rfl rfl) (ipCons (ipO (.i64, (f : Int)) rfl rfl) ipNil))) vpNil (glNone rfl rfl) (by as_aux_lemma => kernel_rfl) (St.same sameRT s')
theorem ibKE0 (hi : i < 2000) (hf : f ≤ i) (he : i = s.size) : ∀ r ∈ ([(12, .oi 1, .oi 0, .bool true), (9, .oi 1, .oi 0, .bool true)] : List BRow), IbOk (ivK s i f) r := by
  letI := Tab.empty
  exact (ibCons (ibB (op := .leq) rfl rfl (k := .i64) (a := (i : Int)) (b := (s.size : Int)) rfl rfl (tB (decide_eq_true (by omega)))) (ibCons (ibB (op := .eql) rfl rfl (k := .i64) (a := (i : Int)) (b := (s.size : Int)) rfl rfl (tB (by simp [he]))) ibNil))
theorem goKE0 (hb : Base B μ 0) (hi : i < 2000) (hf : f ≤ i) (he : i = s.size) (hp : Ans 25 #[.string (s.extract f i)] (.bool false)) (s' : KS s i f B w0 μ a w) : kL.wp Tryz.prog (fun e a' w' => e = .ret ∧ KRt s false B w0 μ a' w') a w :=
  runTo_sound (fr := frOf fsK) (h := hOf 0 []) (T := (RT (ivK s i f) (strK s i f) _ (ibKE0 hi hf he) [] icNil [(0, [.ostr 0], .oi 0), (2, [.ostr 0, .oi 2, .oi 1], .ostr 1)] (txCons (trLen rfl) (txCons (trPart (l := f) (r := i) (bndI rfl) (bndI rfl) hf (by show i ≤ s.size; omega) rfl) txNil)) [] allNil)) (T' := plK s 0 0) (K := (oneHand 25 [.ostr 1] (.bool false))) (n := 100) mixed (@valHand (RT (ivK s i f) (strK s i f) _ (ibKE0 hi hf he) [] icNil [(0, [.ostr 0], .oi 0), (2, [.ostr 0, .oi 2, .oi 1], .ostr 1)] (txCons (trLen rfl) (txCons (trPart (l := f) (r := i) (bndI rfl) (bndI rfl) hf (by show i ≤ s.size; omega) rfl) txNil)) [] allNil) _ _ [.string (s.extract f i)] _ _ (@one_s (RT (ivK s i f) (strK s i f) _ (ibKE0 hi hf he) [] icNil [(0, [.ostr 0], .oi 0), (2, [.ostr 0, .oi 2, .oi 1], .ostr 1)] (txCons (trLen rfl) (txCons (trPart (l := f) (r := i) (bndI rfl) (bndI rfl) hf (by show i ≤ s.size; omega) rfl) txNil)) [] allNil) _ _ rfl) (fun μ => by simp only [vrel]) hp) (C := (⟨0, 0, ofPairs [], []⟩ : Cv)) (rl := []) (ex := .ret) (vp := []) (fs := [(2, .bool false)]) (bs := [])
    hb (Nat.zero_le _) rfl (by kernel_rfl) ipNil vpNil (glNone rfl rfl) (by as_aux_lemma => kernel_rfl) (St.same sameRT s')
theorem ibKE1 (hi : i < 2000) (hf : f ≤ i) (he : i = s.size) : ∀ r ∈ ([(12, .oi 1, .oi 0, .bool true), (9, .oi 1, .oi 0, .bool true), (0, .oi 1, .int .i64 1, .oi 3)] : List BRow), IbOk (ivK s i f) r := by
  letI := Tab.empty
  exact (ibCons (ibB (op := .leq) rfl rfl (k := .i64) (a := (i : Int)) (b := (s.size : Int)) rfl rfl (tB (decide_eq_true (by omega)))) (ibCons (ibB (op := .eql) rfl rfl (k := .i64) (a := (i : Int)) (b := (s.size : Int)) rfl rfl (tB (by simp [he]))) (ibCons (ibAdd (a := (i : Int)) (b := 1) (c := ((i + 1 : Nat) : Int)) rfl rfl rfl (by omega) (by omega) (by omega)) ibNil)))
theorem goKE1 (hb : Base B μ 0) (hi : i < 2000) (hf : f ≤ i) (he : i = s.size) (hp : Ans 25 #[.string (s.extract f i)] (.bool true)) (s' : KS s i f B w0 μ a w) : kL.wp Tryz.prog (fun e a' w' => e = .normal ∧ KS s (i + 1) (i + 1) B w0 μ a' w') a w :=
  runTo_sound (fr := frOf fsK) (h := hOf 0 []) (T := (RT (ivK s i f) (strK s i f) _ (ibKE1 hi hf he) [] icNil [(0, [.ostr 0], .oi 0), (2, [.ostr 0, .oi 2, .oi 1], .ostr 1)] (txCons (trLen rfl) (txCons (trPart (l := f) (r := i) (bndI rfl) (bndI rfl) hf (by show i ≤ s.size; omega) rfl) txNil)) [] allNil)) (T' := plK s (i + 1) (i + 1)) (K := (oneHand 25 [.ostr 1] (.bool true))) (n := 100) mixed (@valHand (RT (ivK s i f) (strK s i f) _ (ibKE1 hi hf he) [] icNil [(0, [.ostr 0], .oi 0), (2, [.ostr 0, .oi 2, .oi 1], .ostr 1)] (txCons (trLen rfl) (txCons (trPart (l := f) (r := i) (bndI rfl) (bndI rfl) hf (by show i ≤ s.size; omega) rfl) txNil)) [] allNil) _ _ [.string (s.extract f i)] _ _ (@one_s (RT (ivK s i f) (strK s i f) _ (ibKE1 hi hf he) [] icNil [(0, [.ostr 0], .oi 0), (2, [.ostr 0, .oi 2, .oi 1], .ostr 1)] (txCons (trLen rfl) (txCons (trPart (l := f) (r := i) (bndI rfl) (bndI rfl) hf (by show i ≤ s.size; omega) rfl) txNil)) [] allNil) _ _ rfl) (fun μ => by simp only [vrel]) hp) (C := (⟨0, 0, ofPairs [], [(.ostr 0, 0), (.oi 3, 1), (.oi 3, 2)]⟩ : Cv)) (rl := []) (ex := .normal) (vp := []) (fs := fsK) (bs := [])
    hb (Nat.zero_le _) rfl (by kernel_rfl) (ipCons (ipS rfl) (ipCons (ipO (.i64, ((i + 1 : Nat) : Int)) rfl rfl) (ipCons (ipO (.i64, ((i + 1 : Nat) : Int)) rfl rfl) ipNil))) vpNil (glNone rfl rfl) (by as_aux_lemma => kernel_rfl) (St.same sameRT s')
theorem ibKS0 (hi : i < 2000) (hf : f ≤ i) (hlt : i < s.size) (e0 : (byt s i == 47) = true) : ∀ r ∈ ([(12, .oi 1, .oi 0, .bool true), (9, .oi 1, .oi 0, .bool false), (9, .oi 4, .int .u8 47, .bool true)] : List BRow), IbOk (ivK s i f) r := by
  letI := Tab.empty
  exact (ibCons (ibB (op := .leq) rfl rfl (k := .i64) (a := (i : Int)) (b := (s.size : Int)) rfl rfl (tB (decide_eq_true (by omega)))) (ibCons (ibB (op := .eql) rfl rfl (k := .i64) (a := (i : Int)) (b := (s.size : Int)) rfl rfl (tB (beq_false_of_ne (by omega)))) (ibCons (ibB (op := .eql) rfl rfl (k := .u8) (a := byt s i) (b := 47) rfl rfl (tB e0)) ibNil)))
theorem goKS0 (hb : Base B μ 0) (hi : i < 2000) (hf : f ≤ i) (hlt : i < s.size) (e0 : (byt s i == 47) = true) (hp : Ans 25 #[.string (s.extract f i)] (.bool false)) (s' : KS s i f B w0 μ a w) : kL.wp Tryz.prog (fun e a' w' => e = .ret ∧ KRt s false B w0 μ a' w') a w :=
  runTo_sound (fr := frOf fsK) (h := hOf 0 []) (T := (RT (ivK s i f) (strK s i f) _ (ibKS0 hi hf hlt e0) [] icNil [(0, [.ostr 0], .oi 0), (1, [.ostr 0, .oi 1], .oi 4), (2, [.ostr 0, .oi 2, .oi 1], .ostr 1)] (txCons (trLen rfl) (txCons (trAt (m := i) rfl rfl hlt) (txCons (trPart (l := f) (r := i) (bndI rfl) (bndI rfl) hf (by show i ≤ s.size; omega) rfl) txNil))) [] allNil)) (T' := plK s 0 0) (K := (oneHand 25 [.ostr 1] (.bool false))) (n := 100) mixed (@valHand (RT (ivK s i f) (strK s i f) _ (ibKS0 hi hf hlt e0) [] icNil [(0, [.ostr 0], .oi 0), (1, [.ostr 0, .oi 1], .oi 4), (2, [.ostr 0, .oi 2, .oi 1], .ostr 1)] (txCons (trLen rfl) (txCons (trAt (m := i) rfl rfl hlt) (txCons (trPart (l := f) (r := i) (bndI rfl) (bndI rfl) hf (by show i ≤ s.size; omega) rfl) txNil))) [] allNil) _ _ [.string (s.extract f i)] _ _ (@one_s (RT (ivK s i f) (strK s i f) _ (ibKS0 hi hf hlt e0) [] icNil [(0, [.ostr 0], .oi 0), (1, [.ostr 0, .oi 1], .oi 4), (2, [.ostr 0, .oi 2, .oi 1], .ostr 1)] (txCons (trLen rfl) (txCons (trAt (m := i) rfl rfl hlt) (txCons (trPart (l := f) (r := i) (bndI rfl) (bndI rfl) hf (by show i ≤ s.size; omega) rfl) txNil))) [] allNil) _ _ rfl) (fun μ => by simp only [vrel]) hp) (C := (⟨0, 0, ofPairs [], []⟩ : Cv)) (rl := []) (ex := .ret) (vp := []) (fs := [(2, .bool false)]) (bs := [])
    hb (Nat.zero_le _) rfl (by kernel_rfl) ipNil vpNil (glNone rfl rfl) (by as_aux_lemma => kernel_rfl) (St.same sameRT s')
theorem ibKS1 (hi : i < 2000) (hf : f ≤ i) (hlt : i < s.size) (e0 : (byt s i == 47) = true) : ∀ r ∈ ([(12, .oi 1, .oi 0, .bool true), (9, .oi 1, .oi 0, .bool false), (9, .oi 4, .int .u8 47, .bool true), (0, .oi 1, .int .i64 1, .oi 3)] : List BRow), IbOk (ivK s i f) r := by
  letI := Tab.empty
  exact (ibCons (ibB (op := .leq) rfl rfl (k := .i64) (a := (i : Int)) (b := (s.size : Int)) rfl rfl (tB (decide_eq_true (by omega)))) (ibCons (ibB (op := .eql) rfl rfl (k := .i64) (a := (i : Int)) (b := (s.size : Int)) rfl rfl (tB (beq_false_of_ne (by omega)))) (ibCons (ibB (op := .eql) rfl rfl (k := .u8) (a := byt s i) (b := 47) rfl rfl (tB e0)) (ibCons (ibAdd (a := (i : Int)) (b := 1) (c := ((i + 1 : Nat) : Int)) rfl rfl rfl (by omega) (by omega) (by omega)) ibNil))))
theorem goKS1 (hb : Base B μ 0) (hi : i < 2000) (hf : f ≤ i) (hlt : i < s.size) (e0 : (byt s i == 47) = true) (hp : Ans 25 #[.string (s.extract f i)] (.bool true)) (s' : KS s i f B w0 μ a w) : kL.wp Tryz.prog (fun e a' w' => e = .normal ∧ KS s (i + 1) (i + 1) B w0 μ a' w') a w :=
  runTo_sound (fr := frOf fsK) (h := hOf 0 []) (T := (RT (ivK s i f) (strK s i f) _ (ibKS1 hi hf hlt e0) [] icNil [(0, [.ostr 0], .oi 0), (1, [.ostr 0, .oi 1], .oi 4), (2, [.ostr 0, .oi 2, .oi 1], .ostr 1)] (txCons (trLen rfl) (txCons (trAt (m := i) rfl rfl hlt) (txCons (trPart (l := f) (r := i) (bndI rfl) (bndI rfl) hf (by show i ≤ s.size; omega) rfl) txNil))) [] allNil)) (T' := plK s (i + 1) (i + 1)) (K := (oneHand 25 [.ostr 1] (.bool true))) (n := 100) mixed (@valHand (RT (ivK s i f) (strK s i f) _ (ibKS1 hi hf hlt e0) [] icNil [(0, [.ostr 0], .oi 0), (1, [.ostr 0, .oi 1], .oi 4), (2, [.ostr 0, .oi 2, .oi 1], .ostr 1)] (txCons (trLen rfl) (txCons (trAt (m := i) rfl rfl hlt) (txCons (trPart (l := f) (r := i) (bndI rfl) (bndI rfl) hf (by show i ≤ s.size; omega) rfl) txNil))) [] allNil) _ _ [.string (s.extract f i)] _ _ (@one_s (RT (ivK s i f) (strK s i f) _ (ibKS1 hi hf hlt e0) [] icNil [(0, [.ostr 0], .oi 0), (1, [.ostr 0, .oi 1], .oi 4), (2, [.ostr 0, .oi 2, .oi 1], .ostr 1)] (txCons (trLen rfl) (txCons (trAt (m := i) rfl rfl hlt) (txCons (trPart (l := f) (r := i) (bndI rfl) (bndI rfl) hf (by show i ≤ s.size; omega) rfl) txNil))) [] allNil) _ _ rfl) (fun μ => by simp only [vrel]) hp) (C := (⟨0, 0, ofPairs [], [(.ostr 0, 0), (.oi 3, 1), (.oi 3, 2)]⟩ : Cv)) (rl := []) (ex := .normal) (vp := []) (fs := fsK) (bs := [])
    hb (Nat.zero_le _) rfl (by kernel_rfl) (ipCons (ipS rfl) (ipCons (ipO (.i64, ((i + 1 : Nat) : Int)) rfl rfl) (ipCons (ipO (.i64, ((i + 1 : Nat) : Int)) rfl rfl) ipNil))) vpNil (glNone rfl rfl) (by as_aux_lemma => kernel_rfl) (St.same sameRT s')
theorem ibKX (h : s.size < i) : ∀ r ∈ ([(12, .oi 1, .oi 0, .bool false)] : List BRow), IbOk (ivK s i f) r := ibCons (ibB (op := .leq) rfl rfl (k := .i64) (a := (i : Int)) (b := (s.size : Int)) rfl rfl (tB (decide_eq_false (by omega)))) ibNil
noncomputable abbrev TKX (s : ByteArray) (i f : Nat) (h : s.size < i) : Tab := RT (ivK s i f) (strK s i f) _ (ibKX h) [] icNil [(0, [.ostr 0], .oi 0)] (txCons (trLen rfl) txNil) [] allNil
theorem outK (hb : Base B μ 0) (h : s.size < i) (s' : KS s i f B w0 μ a w) : kL.wp Tryz.prog (fun e a' w' => e = .exit 0 ∧ KE s B w0 μ a' w') a w :=
  runTo_sound (fr := frOf fsK) (h := hOf 0 []) (T := TKX s i f h) (T' := plK s 0 0) (K := Hand.none) (n := 100) mixed (@HandOk.none (TKX s i f h) Tryz.prog) (C := (⟨0, 0, ofPairs [], []⟩ : Cv)) (rl := []) (ex := .exit 0) (vp := []) (fs := []) (bs := [])
    hb (Nat.zero_le _) rfl (by kernel_rfl) ipNil vpNil (glNone rfl rfl) (by as_aux_lemma => kernel_rfl) (St.same sameRT s')
theorem endK (hb : Base B μ 0) (s' : KE s B w0 μ a w) : kT.wp Tryz.prog (fun e a' w' => e = .ret ∧ KRt s true B w0 μ a' w') a w :=
  runTo_sound (fr := frOf []) (h := hOf 0 []) (T := plK s 0 0) (T' := plK s 0 0) (K := Hand.none) (n := 100) mixed (@HandOk.none (plK s 0 0) Tryz.prog) (C := (⟨0, 0, ofPairs [], []⟩ : Cv)) (rl := []) (ex := .ret) (vp := []) (fs := [(2, .bool true)]) (bs := [])
    hb (Nat.zero_le _) rfl (by kernel_rfl) ipNil vpNil (glNone rfl rfl) (by as_aux_lemma => kernel_rfl) s'
theorem roundsK (hs : s.size < 1900) : ∀ j i f, s.size + 1 ≤ i + j → i ≤ s.size + 1 → f ≤ i → ∃ o : Bool, ∀ B w0 μ, Base B μ 0 → ∀ a w, KS s i f B w0 μ a w → Code.rounds Tryz.prog kL (fun e a w => (o = false ∧ e = .ret ∧ KRt s false B w0 μ a w) ∨ (o = true ∧ e = .exit 0 ∧ KE s B w0 μ a w)) (j + 1) a w := by
  have last : ∀ j i f, s.size < i → ∃ o : Bool, ∀ B w0 μ, Base B μ 0 → ∀ a w, KS s i f B w0 μ a w → Code.rounds Tryz.prog kL (fun e a w => (o = false ∧ e = .ret ∧ KRt s false B w0 μ a w) ∨ (o = true ∧ e = .exit 0 ∧ KE s B w0 μ a w)) (j + 1) a w := by
    intro j i f h
    refine ⟨true, fun B w0 μ hb a w s' => ?_⟩
    refine rounds_of (wp_mono (outK hb h s') ?_)
    rintro e a' w' ⟨rfl, s2⟩
    exact .inr ⟨rfl, rfl, s2⟩
  intro j
  induction j with
  | zero => exact fun i f h1 h2 h3 => last 0 i f (by omega)
  | succ j ih =>
    intro i f h1 h2 h3
    by_cases hle : i ≤ s.size
    · have hi : i < 2000 := by omega
      have bad : (∀ B w0 μ, Base B μ 0 → ∀ a w, KS s i f B w0 μ a w → kL.wp Tryz.prog (fun e a' w' => e = .ret ∧ KRt s false B w0 μ a' w') a w) → ∃ o : Bool, ∀ B w0 μ, Base B μ 0 → ∀ a w, KS s i f B w0 μ a w → Code.rounds Tryz.prog kL (fun e a w => (o = false ∧ e = .ret ∧ KRt s false B w0 μ a w) ∨ (o = true ∧ e = .exit 0 ∧ KE s B w0 μ a w)) (j + 1 + 1) a w := by
        intro hf
        refine ⟨false, fun B w0 μ hb a w s' => ?_⟩
        refine rounds_of (wp_mono (hf B w0 μ hb a w s') ?_)
        rintro e a' w' ⟨rfl, s2⟩
        exact .inl ⟨rfl, rfl, s2⟩
      have good : ∀ f', f' ≤ i + 1 → (∀ B w0 μ, Base B μ 0 → ∀ a w, KS s i f B w0 μ a w → kL.wp Tryz.prog (fun e a' w' => e = .normal ∧ KS s (i + 1) f' B w0 μ a' w') a w) → ∃ o : Bool, ∀ B w0 μ, Base B μ 0 → ∀ a w, KS s i f B w0 μ a w → Code.rounds Tryz.prog kL (fun e a w => (o = false ∧ e = .ret ∧ KRt s false B w0 μ a w) ∨ (o = true ∧ e = .exit 0 ∧ KE s B w0 μ a w)) (j + 1 + 1) a w := by
        intro f' hf' hg
        obtain ⟨o, hr⟩ := ih (i + 1) f' (by omega) (by omega) hf'
        refine ⟨o, fun B w0 μ hb a w s' => ?_⟩
        refine rounds_of (wp_mono (hg B w0 μ hb a w s') ?_)
        rintro e a' w' ⟨rfl, s2⟩
        exact hr B w0 μ hb a' w' s2
      have hx : (s.extract f i).size < 1900 := by rw [ByteArray.size_extract]; omega
      obtain ⟨b, hp⟩ := plain_ans (s.extract f i) hx
      by_cases he : i = s.size
      · cases b with
        | true => exact good (i + 1) (Nat.le_refl _) fun B w0 μ hb a w s' => goKE1 hb hi h3 he hp s'
        | false => exact bad fun B w0 μ hb a w s' => goKE0 hb hi h3 he hp s'
      · have hlt : i < s.size := by omega
        cases e0 : (byt s i == 47) with
        | true =>
          cases b with
          | true => exact good (i + 1) (Nat.le_refl _) fun B w0 μ hb a w s' => goKS1 hb hi h3 hlt e0 hp s'
          | false => exact bad fun B w0 μ hb a w s' => goKS0 hb hi h3 hlt e0 hp s'
        | false => exact good f (by omega) fun B w0 μ hb a w s' => goKN hb hi h3 hlt e0 s'
    · exact last (j + 1) i f (by omega)
theorem ibK0 (h : s.size ≤ 255) : ∀ r ∈ ([(13, .oi 0, .int .i64 255, .bool false)] : List BRow), IbOk (ivK s 0 0) r := ibCons (ibB (op := .gtr) rfl rfl (k := .i64) (a := (s.size : Int)) (b := 255) rfl rfl (tB (decide_eq_false (by omega)))) ibNil
noncomputable abbrev TK0 (s : ByteArray) (h : s.size ≤ 255) : Tab := RT (ivK s 0 0) (strK s 0 0) _ (ibK0 h) [] icNil [(0, [.ostr 0], .oi 0)] (txCons (trLen rfl) txNil) [] allNil
theorem firstK (h : s.size ≤ 255) : firstTo (TK0 s h) Tryz.prog Hand.none 100 Tryz.f17.ntmps 3 kb (T.ofList 0 .leaf [.ostr 0]) H.empty (⟨0, 0, ofPairs [], [(.ostr 0, 0), (.int .i64 0, 2)]⟩ : Cv) [] [(0, .ostr 0), (3, .oi 2)] [] = true := by kernel_rfl
theorem startK (hb : Base B μ 0) (s' : St (plK s 0 0) B w0 μ Tryz.f17.ntmps (frOf [(0, .ostr 0), (3, .oi 2)]) (hOf 0 []) a w) : kA.wp Tryz.prog (fun e a' w' => e = .normal ∧ KS s 0 0 B w0 μ a' w') a w :=
  runTo_sound (T := plK s 0 0) (T' := plK s 0 0) (K := Hand.none) (n := 100) mixed (@HandOk.none (plK s 0 0) Tryz.prog) (C := (⟨0, 0, ofPairs [], [(.ostr 0, 0), (.int .i64 0, 1), (.oi 2, 2)]⟩ : Cv)) (rl := []) (ex := .normal) (vp := []) (fs := fsK) (bs := [])
    hb (Nat.zero_le _) rfl (by kernel_rfl) (ipCons (ipS rfl) (ipCons (ipC rfl) (ipCons (ipO (.i64, ((0 : Nat) : Int)) rfl rfl) ipNil))) vpNil (glNone rfl rfl) (by as_aux_lemma => kernel_rfl) s'
end
theorem resK (b : Bool) (h : H) : results? Tryz.prog Tryz.f17 (frOf [(2, .bool b)]) h = some (.bool b) := by kernel_rfl
theorem class_ans (s : ByteArray) (hs : s.size ≤ 255) : ∃ b : Bool, Ans 17 #[.string s] (.bool b) := by
  obtain ⟨o, hr⟩ := roundsK (s := s) (by omega) (s.size + 1) 0 0 (by omega) (Nat.zero_le _) (Nat.le_refl _)
  refine ⟨o, ?_⟩
  letI : Tab := TK0 s hs
  refine ans_of (args := [.ostr 0]) (a := .bool o) (q := hOf 0 []) ?_ (fun μ v g => isBool μ v g) (vrels_cons (by simp only [vrel]; rfl) (by simp [vrels])) rfl rfl
  refine @callOk_of Tryz.prog (TK0 s hs) 17 Tryz.f17 kb [.ostr 0] H.empty _ _ Tryz.func17 kb_eq (show 1 ≤ Tryz.f17.ntmps by decide +kernel) (show 1 < limit by decide) fun B w0 μ a w hb s' => ?_
  have hb : Base B μ 0 := hb
  refine firstTo_sound (T := TK0 s hs) (T' := plK s 0 0) (K := Hand.none) (m := 100) (n := 3) mixed (@HandOk.none (TK0 s hs) Tryz.prog) (C := (⟨0, 0, ofPairs [], [(.ostr 0, 0), (.int .i64 0, 2)]⟩ : Cv)) (rl := []) (vp := []) (fs := [(0, .ostr 0), (3, .oi 2)]) (bs := [])
    hb (Nat.le_refl _) rfl (by kernel_rfl) (ipCons (ipS rfl) (ipCons (ipC rfl) ipNil)) vpNil (glNone rfl rfl) (firstK hs) s' fun a1 w1 s1 => ?_
  rw [k_eq]
  refine wp_seq (wp_seq (wp_mono (startK hb s1) ?_))
  rintro e a2 w2 ⟨rfl, s2⟩
  show (Code.block 0 (.loop kL)).wp _ _ _ _
  refine wp_block (wp_mono (wp_loop_rounds _ (hr B w0 μ hb a2 w2 s2)) ?_)
  rintro e a3 w3 (⟨rfl, rfl, s3⟩ | ⟨rfl, rfl, s3⟩)
  · exact St.done (τ := TK0 s hs) (e := .ret) (.inr rfl) (resK _ _) (St.same sameRT s3)
  · show kT.wp _ _ _ _
    refine wp_mono (endK hb s3) ?_
    rintro e a4 w4 ⟨rfl, s4⟩
    exact St.done (τ := TK0 s hs) (e := .ret) (.inr rfl) (resK _ _) (St.same sameRT s4)
end Go.Proofs.YtlnkclamdiohnaaGreatDoor.fp
