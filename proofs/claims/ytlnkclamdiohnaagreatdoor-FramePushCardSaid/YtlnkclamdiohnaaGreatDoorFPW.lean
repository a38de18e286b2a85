/-
  How many words operands take: the program's count, for rows of up to twelve.
-/
import Derived.Test.YtlnkclamdiohnaaGreatDoorFPV6
set_option linter.unusedVariables false
set_option linter.unusedSimpArgs false
set_option linter.unusedSectionVars false
set_option maxRecDepth 1000000
set_option maxHeartbeats 0
namespace Go.Proofs.YtlnkclamdiohnaaGreatDoor.fp
open Go.X Go.RowKit Go.Proofs
/-- words of the first so many -/
def Wd (K : Nat → Int) : Nat → Nat
  | 0 => 0
  | t + 1 => Wd K t + (if K t = 4 then 2 else 1)
theorem Wd_le (K : Nat → Int) : ∀ t, Wd K t ≤ 2 * t
  | 0 => Nat.le_refl _
  | t + 1 => by
    have := Wd_le K t
    show Wd K t + (if K t = 4 then 2 else 1) ≤ _
    split <;> omega
theorem Wd_pos (K : Nat → Int) (t : Nat) : 0 < Wd K (t + 1) := by
  show 0 < Wd K t + (if K t = 4 then 2 else 1)
  split <;> omega
theorem Wd4 {K : Nat → Int} {t : Nat} (h : K t = 4) : Wd K (t + 1) = Wd K t + 2 := by show Wd K t + (if K t = 4 then 2 else 1) = _; rw [if_pos h]
theorem Wd1 {K : Nat → Int} {t : Nat} (h : ¬ K t = 4) : Wd K (t + 1) = Wd K t + 1 := by show Wd K t + (if K t = 4 then 2 else 1) = _; rw [if_neg h]
abbrev ivW (len i c : Nat) (V : Vs) : Nat → IntKind × Int
  | 0 => (.i64, (len : Int))
  | 1 => (.i64, (i : Int))
  | 2 => (.i64, V.kf i)
  | 3 => (.i64, V.af i)
  | 4 => (.i64, (c : Int))
  | 5 => (.i64, ((c + 1 : Nat) : Int))
  | _ => (.i64, ((c + 2 : Nat) : Int))
abbrev strW (nf : Nat → ByteArray) : Nat → ByteArray := fun m => nf ((m - 2) / 2)
theorem strW_at (nf : Nat → ByteArray) (t : Nat) : strW nf (2 + 2 * t) = nf t := by
  show nf ((2 + 2 * t - 2) / 2) = _
  rw [show (2 + 2 * t - 2) / 2 = t by omega]
abbrev RVa (iv : Nat → IntKind × Int) (ib : List BRow) (hib : ∀ r ∈ ib, IbOk iv r) (vc : List (Nat × Nat)) (hvc : ∀ p ∈ vc, iv p.2 = (.i64, (p.1 : Int))) (va : List VA) (hva : ∀ r ∈ va, VaOk iv noV noK r) : VRows iv noV noK where
  vvp := noVp
  ib := ib
  ibok := hib
  vc := vc
  vcok := hvc
  va := va
  vaok := hva
abbrev TFa (iv : Nat → IntKind × Int) (str : Nat → ByteArray) (F : Fgn) (ib : List BRow) (hib : ∀ r ∈ ib, IbOk iv r) (vc : List (Nat × Nat)) (hvc : ∀ p ∈ vc, iv p.2 = (.i64, (p.1 : Int))) (fl : List VL) (hfl : ∀ r ∈ fl, FlOk iv F r) (va : List VA) (hva : ∀ r ∈ va, VaOk iv noV noK r) : Tab :=
  { (RVa iv ib hib vc hvc va hva).ftab F fl hfl with str := str, ne := fun _ => [], ok := fun _ p h => (by cases h), tr := [], trok := txNil }
abbrev plW (len i c : Nat) (V : Vs) : Tab := TFa (ivW len i c V) (strW V.nf) (fgU V) [] ibNil [] allNil [] allNil [] allNil
theorem sameTFa {iv : Nat → IntKind × Int} {str : Nat → ByteArray} {F : Fgn} {ib hib vc hvc fl hfl va hva} : SameTab (TFa iv str F [] ibNil [] allNil [] allNil [] allNil) (TFa iv str F ib hib vc hvc fl hfl va hva) := ⟨rfl, rfl, rfl, rfl, rfl, rfl, rfl, rfl, rfl⟩
theorem ipF0' {T T' : Tab} {j : Nat} (h1 : T'.fb 0 = T.fb 0) (h2 : T'.fcap 0 = T.fcap 0) : IpOk1 T T' (.fo 0 j 3, 0) := ⟨h1, h2⟩
theorem flU1 {iv : Nat → IntKind × Int} {V : Vs} {i : Nat} (h1 : iv 1 = (.i64, (i : Int))) (h2 : iv 2 = (.i64, V.kf i)) (hi : i < V.cnt) : FlOk iv (fgU V) ⟨0, 1, 3, 0, [.oi 2]⟩ := by
  refine ⟨by rw [h1]; exact ⟨rfl, Int.natCast_nonneg _⟩, fun m x hx => ?_⟩
  have e1 : (iv 1).2.toNat = i := by rw [h1]; simp
  show ∃ a, (if (iv 1).2.toNat * 3 + 0 + m < 3 * V.cnt then some (cellU V ((iv 1).2.toNat * 3 + 0 + m)) else none) = some a ∧ sameAV iv a x
  rw [e1]
  match m, hx with
  | 0, hx =>
    cases hx
    rw [if_pos (by omega)]
    refine ⟨_, rfl, .inr ⟨(.i64, V.kf i), ?_, by show some (iv 2) = _; rw [h2]⟩⟩
    unfold cellU
    rw [if_pos (by omega), show (i * 3 + 0 + 0) / 3 = i by omega]
    rfl
  | m + 1, hx => simp at hx
noncomputable def wb : Code := codeOf Tryz.f13
theorem wb_eq : Tryz.f13.body = some wb := by kernel_rfl
noncomputable def wA : Code := hd (hd (restn 2 wb))
noncomputable def wL : Code := lpIn (tl (hd (restn 2 wb)))
noncomputable def wT : Code := tl (restn 2 wb)
theorem w_eq : restn 2 wb = .seq (.seq wA (.block 0 (.loop wL))) wT := by kernel_rfl
section
variable {len i c : Nat} {V : Vs} {B : Kp} {w0 w : World} {μ : M} {a : Act}
noncomputable abbrev fsW (i : Nat) : List (Nat × AV) := [(3, .oi 4), (6, .fo 0 0 3), (7, .oi 0), (8, .int .i64 (i : Int))]
/-- ahead of the i-th: c words so far (the table's own numbers are those of element q) -/
def SW (i len c : Nat) (V : Vs) (B : Kp) (w0 : World) (μ : M) (a : Act) (w : World) : Prop := St (plW len i c V) B w0 μ Tryz.f13.ntmps (frOf (fsW i)) (hOf 0 []) a w
theorem ibW4 (hl : i < len) (hk : V.kf i = 4) (hc : c < 100) : ∀ r ∈ (bRows i [(9, .oi 2, .int .i64 4, .bool true), (0, .oi 4, .int .i64 1, .oi 5), (0, .oi 5, .int .i64 1, .oi 6)] : List BRow), IbOk (ivW len i c V) r := by
  letI := Tab.empty
  exact bRows_ok rfl rfl hl (ibCons (eqT rfl hk) (ibCons (ibAdd (a := (c : Int)) (b := 1) (c := ((c + 1 : Nat) : Int)) rfl rfl rfl (by omega) (by omega) (by omega)) (ibCons (ibAdd (a := ((c + 1 : Nat) : Int)) (b := 1) (c := ((c + 2 : Nat) : Int)) rfl rfl rfl (by omega) (by omega) (by omega)) ibNil)))
theorem ibW1 (hl : i < len) (hk : ¬ V.kf i = 4) (hc : c < 100) : ∀ r ∈ (bRows i [(9, .oi 2, .int .i64 4, .bool false), (0, .oi 4, .int .i64 1, .oi 5)] : List BRow), IbOk (ivW len i c V) r := by
  letI := Tab.empty
  exact bRows_ok rfl rfl hl (ibCons (eqF2 rfl hk) (ibCons (ibAdd (a := (c : Int)) (b := 1) (c := ((c + 1 : Nat) : Int)) rfl rfl rfl (by omega) (by omega) (by omega)) ibNil))
theorem ibWX (hl : ¬ i < len) : ∀ r ∈ ([(11, .int .i64 (i : Int), .oi 0, .bool false)] : List BRow), IbOk (ivW len i c V) r := ibCons (ibB (op := .lss) rfl rfl (k := .i64) (a := (i : Int)) (b := (len : Int)) rfl rfl (tB (decide_eq_false (by omega)))) ibNil
noncomputable abbrev TW4 (len i c : Nat) (V : Vs) (hl : i < len) (hcn : len ≤ V.cnt) (hk : V.kf i = 4) (hc : c < 100) (va : List VA) (hva : ∀ r ∈ va, VaOk (ivW len i c V) noV noK r) : Tab := TFa (ivW len i c V) (strW V.nf) (fgU V) _ (ibW4 hl hk hc) [(i, 1)] (allCons rfl allNil) [⟨0, 1, 3, 0, [.oi 2, .ostr (2 + 2 * i), .oi 3]⟩, ⟨0, 1, 3, 0, [.oi 2]⟩] (allCons (flU (i := i) rfl rfl rfl (by omega)) (allCons (flU1 (i := i) rfl rfl (by omega)) allNil)) va hva
noncomputable abbrev TW1 (len i c : Nat) (V : Vs) (hl : i < len) (hcn : len ≤ V.cnt) (hk : ¬ V.kf i = 4) (hc : c < 100) (va : List VA) (hva : ∀ r ∈ va, VaOk (ivW len i c V) noV noK r) : Tab := TFa (ivW len i c V) (strW V.nf) (fgU V) _ (ibW1 hl hk hc) [(i, 1)] (allCons rfl allNil) [⟨0, 1, 3, 0, [.oi 2, .ostr (2 + 2 * i), .oi 3]⟩, ⟨0, 1, 3, 0, [.oi 2]⟩] (allCons (flU (i := i) rfl rfl rfl (by omega)) (allCons (flU1 (i := i) rfl rfl (by omega)) allNil)) va hva
noncomputable abbrev TWX (len i c : Nat) (V : Vs) (hl : ¬ i < len) : Tab := TFa (ivW len i c V) (strW V.nf) (fgU V) _ (ibWX hl) [] allNil [] allNil [] allNil
noncomputable def cvW (j : AV) : Cv := ⟨0, 0, ofPairs [], [(.fo 0 0 3, 0), (.oi 0, 0), (j, 4)]⟩
theorem ipW {T T' : Tab} {j : AV} {n : Int} (h1 : T'.fb 0 = T.fb 0) (h2 : T'.fcap 0 = T.fcap 0) (h0 : T.iv 0 = T'.iv 0) (hj : IpOk1 T T' (j, 4)) : IpOk T T' [(.fo 0 0 3, 0), (.oi 0, 0), (j, 4)] := ipCons (ipF0' h1 h2) (ipCons (ipO _ h0 rfl) (ipCons hj ipNil))
def GW4 (i : Nat) : Prop := ∀ len c V hl hcn hk hc, runTo (TW4 len i c V hl hcn hk hc [] allNil) Tryz.prog Hand.none 100 Tryz.f13.ntmps wL (frOf (fsW i)) (hOf 0 []) .normal (cvW (.oi 6)) [] (fsW (i + 1)) [] = true
def GW1 (i : Nat) : Prop := ∀ len c V hl hcn hk hc, runTo (TW1 len i c V hl hcn hk hc [] allNil) Tryz.prog Hand.none 100 Tryz.f13.ntmps wL (frOf (fsW i)) (hOf 0 []) .normal (cvW (.oi 5)) [] (fsW (i + 1)) [] = true
def GWX (i : Nat) : Prop := ∀ len c V hl, runTo (TWX len i c V hl) Tryz.prog Hand.none 100 Tryz.f13.ntmps wL (frOf (fsW i)) (hOf 0 []) (.exit 0) (cvW (.oi 4)) [] [(3, .oi 4)] [] = true
theorem gW4_0 : GW4 0 := fun len c V hl hcn hk hc => (by as_aux_lemma => kernel_rfl)
theorem gW1_0 : GW1 0 := fun len c V hl hcn hk hc => (by as_aux_lemma => kernel_rfl)
theorem gWX_0 : GWX 0 := fun len c V hl => (by as_aux_lemma => kernel_rfl)
theorem gW4_1 : GW4 1 := fun len c V hl hcn hk hc => (by as_aux_lemma => kernel_rfl)
theorem gW1_1 : GW1 1 := fun len c V hl hcn hk hc => (by as_aux_lemma => kernel_rfl)
theorem gWX_1 : GWX 1 := fun len c V hl => (by as_aux_lemma => kernel_rfl)
theorem gW4_2 : GW4 2 := fun len c V hl hcn hk hc => (by as_aux_lemma => kernel_rfl)
theorem gW1_2 : GW1 2 := fun len c V hl hcn hk hc => (by as_aux_lemma => kernel_rfl)
theorem gWX_2 : GWX 2 := fun len c V hl => (by as_aux_lemma => kernel_rfl)
theorem gW4_3 : GW4 3 := fun len c V hl hcn hk hc => (by as_aux_lemma => kernel_rfl)
theorem gW1_3 : GW1 3 := fun len c V hl hcn hk hc => (by as_aux_lemma => kernel_rfl)
theorem gWX_3 : GWX 3 := fun len c V hl => (by as_aux_lemma => kernel_rfl)
theorem gW4_4 : GW4 4 := fun len c V hl hcn hk hc => (by as_aux_lemma => kernel_rfl)
theorem gW1_4 : GW1 4 := fun len c V hl hcn hk hc => (by as_aux_lemma => kernel_rfl)
theorem gWX_4 : GWX 4 := fun len c V hl => (by as_aux_lemma => kernel_rfl)
theorem gW4_5 : GW4 5 := fun len c V hl hcn hk hc => (by as_aux_lemma => kernel_rfl)
theorem gW1_5 : GW1 5 := fun len c V hl hcn hk hc => (by as_aux_lemma => kernel_rfl)
theorem gWX_5 : GWX 5 := fun len c V hl => (by as_aux_lemma => kernel_rfl)
theorem gW4_6 : GW4 6 := fun len c V hl hcn hk hc => (by as_aux_lemma => kernel_rfl)
theorem gW1_6 : GW1 6 := fun len c V hl hcn hk hc => (by as_aux_lemma => kernel_rfl)
theorem gWX_6 : GWX 6 := fun len c V hl => (by as_aux_lemma => kernel_rfl)
theorem gW4_7 : GW4 7 := fun len c V hl hcn hk hc => (by as_aux_lemma => kernel_rfl)
theorem gW1_7 : GW1 7 := fun len c V hl hcn hk hc => (by as_aux_lemma => kernel_rfl)
theorem gWX_7 : GWX 7 := fun len c V hl => (by as_aux_lemma => kernel_rfl)
theorem gW4_8 : GW4 8 := fun len c V hl hcn hk hc => (by as_aux_lemma => kernel_rfl)
theorem gW1_8 : GW1 8 := fun len c V hl hcn hk hc => (by as_aux_lemma => kernel_rfl)
theorem gWX_8 : GWX 8 := fun len c V hl => (by as_aux_lemma => kernel_rfl)
theorem gW4_9 : GW4 9 := fun len c V hl hcn hk hc => (by as_aux_lemma => kernel_rfl)
theorem gW1_9 : GW1 9 := fun len c V hl hcn hk hc => (by as_aux_lemma => kernel_rfl)
theorem gWX_9 : GWX 9 := fun len c V hl => (by as_aux_lemma => kernel_rfl)
theorem gW4_10 : GW4 10 := fun len c V hl hcn hk hc => (by as_aux_lemma => kernel_rfl)
theorem gW1_10 : GW1 10 := fun len c V hl hcn hk hc => (by as_aux_lemma => kernel_rfl)
theorem gWX_10 : GWX 10 := fun len c V hl => (by as_aux_lemma => kernel_rfl)
theorem gW4_11 : GW4 11 := fun len c V hl hcn hk hc => (by as_aux_lemma => kernel_rfl)
theorem gW1_11 : GW1 11 := fun len c V hl hcn hk hc => (by as_aux_lemma => kernel_rfl)
theorem gWX_11 : GWX 11 := fun len c V hl => (by as_aux_lemma => kernel_rfl)
theorem gWX_12 : GWX 12 := fun len c V hl => (by as_aux_lemma => kernel_rfl)
theorem aW4 : ∀ i, i < 12 → GW4 i
  | 0, _ => gW4_0
  | 1, _ => gW4_1
  | 2, _ => gW4_2
  | 3, _ => gW4_3
  | 4, _ => gW4_4
  | 5, _ => gW4_5
  | 6, _ => gW4_6
  | 7, _ => gW4_7
  | 8, _ => gW4_8
  | 9, _ => gW4_9
  | 10, _ => gW4_10
  | 11, _ => gW4_11
  | i + 12, h => absurd h (by omega)
theorem aW1 : ∀ i, i < 12 → GW1 i
  | 0, _ => gW1_0
  | 1, _ => gW1_1
  | 2, _ => gW1_2
  | 3, _ => gW1_3
  | 4, _ => gW1_4
  | 5, _ => gW1_5
  | 6, _ => gW1_6
  | 7, _ => gW1_7
  | 8, _ => gW1_8
  | 9, _ => gW1_9
  | 10, _ => gW1_10
  | 11, _ => gW1_11
  | i + 12, h => absurd h (by omega)
theorem aWX : ∀ i, i < 13 → GWX i
  | 0, _ => gWX_0
  | 1, _ => gWX_1
  | 2, _ => gWX_2
  | 3, _ => gWX_3
  | 4, _ => gWX_4
  | 5, _ => gWX_5
  | 6, _ => gWX_6
  | 7, _ => gWX_7
  | 8, _ => gWX_8
  | 9, _ => gWX_9
  | 10, _ => gWX_10
  | 11, _ => gWX_11
  | 12, _ => gWX_12
  | i + 13, h => absurd h (by omega)
/-- behind the loop -/
def EW (len c : Nat) (V : Vs) (B : Kp) (w0 : World) (μ : M) (a : Act) (w : World) : Prop := St (plW len 0 c V) B w0 μ Tryz.f13.ntmps (frOf [(3, .oi 4)]) (hOf 0 []) a w
theorem goW4 (hi : i < 12) (hb : Base B μ 0) (hl : i < len) (hcn : len ≤ V.cnt) (hk : V.kf i = 4) (hc : c < 100) (s' : SW i len c V B w0 μ a w) : wL.wp Tryz.prog (fun e a' w' => e = .normal ∧ SW (i + 1) len (c + 2) V B w0 μ a' w') a w :=
  runTo_sound (fr := frOf (fsW i)) (h := hOf 0 []) (T := TW4 len i c V hl hcn hk hc [] allNil) (T' := plW len (i + 1) (c + 2) V) (K := Hand.none) (n := 100) mixed (@HandOk.none (TW4 len i c V hl hcn hk hc [] allNil) Tryz.prog) (C := cvW (.oi 6)) (rl := []) (ex := .normal) (vp := []) (fs := fsW (i + 1)) (bs := [])
    hb (Nat.zero_le _) rfl (by kernel_rfl) (ipW (n := 0) (by rfl) (by rfl) (by rfl) (ipO (.i64, ((c + 2 : Nat) : Int)) rfl rfl)) vpNil (glU rfl rfl rfl rfl (strW_at _) (strW_at _)) (aW4 i hi len c V hl hcn hk hc) (St.same sameTFa s')
theorem goW1 (hi : i < 12) (hb : Base B μ 0) (hl : i < len) (hcn : len ≤ V.cnt) (hk : ¬ V.kf i = 4) (hc : c < 100) (s' : SW i len c V B w0 μ a w) : wL.wp Tryz.prog (fun e a' w' => e = .normal ∧ SW (i + 1) len (c + 1) V B w0 μ a' w') a w :=
  runTo_sound (fr := frOf (fsW i)) (h := hOf 0 []) (T := TW1 len i c V hl hcn hk hc [] allNil) (T' := plW len (i + 1) (c + 1) V) (K := Hand.none) (n := 100) mixed (@HandOk.none (TW1 len i c V hl hcn hk hc [] allNil) Tryz.prog) (C := cvW (.oi 5)) (rl := []) (ex := .normal) (vp := []) (fs := fsW (i + 1)) (bs := [])
    hb (Nat.zero_le _) rfl (by kernel_rfl) (ipW (n := 0) (by rfl) (by rfl) (by rfl) (ipO (.i64, ((c + 1 : Nat) : Int)) rfl rfl)) vpNil (glU rfl rfl rfl rfl (strW_at _) (strW_at _)) (aW1 i hi len c V hl hcn hk hc) (St.same sameTFa s')
theorem outW (hi : i < 13) (hb : Base B μ 0) (hl : ¬ i < len) (s' : SW i len c V B w0 μ a w) : wL.wp Tryz.prog (fun e a' w' => e = .exit 0 ∧ EW len c V B w0 μ a' w') a w :=
  runTo_sound (fr := frOf (fsW i)) (h := hOf 0 []) (T := TWX len i c V hl) (T' := plW len 0 c V) (K := Hand.none) (n := 100) mixed (@HandOk.none (TWX len i c V hl) Tryz.prog) (C := cvW (.oi 4)) (rl := []) (ex := .exit 0) (vp := []) (fs := [(3, .oi 4)]) (bs := [])
    hb (Nat.zero_le _) rfl (by kernel_rfl) (ipW (n := 0) (by rfl) (by rfl) (by rfl) (ipO (.i64, (c : Int)) rfl rfl)) vpNil (glU rfl rfl rfl rfl (strW_at _) (strW_at _)) (aWX i hi len c V hl) (St.same sameTFa s')
theorem roundsW (hcn : len ≤ V.cnt) (hl : len ≤ 12) (hb : Base B μ 0) : ∀ (j i : Nat) (a : Act) (w : World), i + j = len → SW i len (Wd V.kf i) V B w0 μ a w → Code.rounds Tryz.prog wL (fun e a w => e = .exit 0 ∧ EW len (Wd V.kf len) V B w0 μ a w) (j + 1) a w
  | 0, i, a, w, h, s => by
    refine rounds_of (wp_mono (outW (by omega) hb (by omega) s) ?_)
    rintro e a' w' ⟨rfl, s2⟩
    rw [show i = len by omega] at s2
    exact ⟨rfl, s2⟩
  | j + 1, i, a, w, h, s => by
    have hc : Wd V.kf i < 100 := by have := Wd_le V.kf i; omega
    by_cases hk : V.kf i = 4
    · refine rounds_of (wp_mono (goW4 (by omega) hb (by omega) hcn hk hc s) ?_)
      rintro e a' w' ⟨rfl, s2⟩
      exact roundsW hcn hl hb j (i + 1) a' w' (by omega) (by rw [Wd4 hk]; exact s2)
    · refine rounds_of (wp_mono (goW1 (by omega) hb (by omega) hcn hk hc s) ?_)
      rintro e a' w' ⟨rfl, s2⟩
      exact roundsW hcn hl hb j (i + 1) a' w' (by omega) (by rw [Wd1 hk]; exact s2)
theorem firstW : firstTo (plW len 0 c V) Tryz.prog Hand.none 100 Tryz.f13.ntmps 2 wb (T.ofList 0 .leaf [.fo 0 0 3]) H.empty (cvW (.int .i64 0)) [] [(0, .fo 0 0 3), (3, .oi 4)] [] = true := by kernel_rfl
theorem startW (hb : Base B μ 0) (s' : St (plW len 0 0 V) B w0 μ Tryz.f13.ntmps (frOf [(0, .fo 0 0 3), (3, .oi 4)]) (hOf 0 []) a w) : wA.wp Tryz.prog (fun e a' w' => e = .normal ∧ SW 0 len 0 V B w0 μ a' w') a w :=
  runTo_sound (T := plW len 0 0 V) (T' := plW len 0 0 V) (K := Hand.none) (n := 100) mixed (@HandOk.none (plW len 0 0 V) Tryz.prog) (C := cvW (.oi 4)) (rl := []) (ex := .normal) (vp := []) (fs := fsW 0) (bs := [])
    hb (Nat.zero_le _) rfl (by kernel_rfl) (ipW (n := 0) (by rfl) (by rfl) (by rfl) (ipO (.i64, ((0 : Nat) : Int)) rfl rfl)) vpNil (glU rfl rfl rfl rfl (strW_at _) (strW_at _)) (by as_aux_lemma => kernel_rfl) s'
theorem endW (hb : Base B μ 0) (s' : EW len c V B w0 μ a w) : wT.wp Tryz.prog (fun e a' w' => e = .ret ∧ St (plW len 0 c V) B w0 μ Tryz.f13.ntmps (frOf [(2, .oi 4)]) (hOf 0 []) a' w') a w :=
  runTo_sound (fr := frOf [(3, .oi 4)]) (h := hOf 0 []) (T := plW len 0 c V) (T' := plW len 0 c V) (K := Hand.none) (n := 100) mixed (@HandOk.none (plW len 0 c V) Tryz.prog) (C := cvW (.oi 4)) (rl := []) (ex := .ret) (vp := []) (fs := [(2, .oi 4)]) (bs := [])
    hb (Nat.zero_le _) rfl (by kernel_rfl) (ipW (n := 0) (by rfl) (by rfl) (by rfl) (ipO (.i64, (c : Int)) rfl rfl)) vpNil (glU rfl rfl rfl rfl (strW_at _) (strW_at _)) (by as_aux_lemma => kernel_rfl) s'
end
theorem resW (h : H) : results? Tryz.prog Tryz.f13 (frOf [(2, .oi 4)]) h = some (.oi 4) := by kernel_rfl
/-- what is known of a row of types in the world makes it a foreign slice's table -/
theorem gl_V {T : Tab} {V : Vs} {w : World} (hg : T.gv = fun _ _ => none) (hb : T.fb = (fgU V).fb) (hf : T.fv = (fgU V).fv) (hs : ∀ t, T.str (2 + 2 * t) = V.nf t) (hw : ∀ m, m < 3 * V.cnt → w.cell? ⟨V.b, V.o + m, none⟩ = some (valU V m)) : @Gl T (Kp.below w.heap.size) w := by
  refine ⟨fun g o a h => (by rw [hg] at h; cases h), fun i m a h => ?_⟩
  rw [hf] at h
  rw [hb]
  match i, h with
  | 0, h =>
    have h' : (if m < 3 * V.cnt then some (cellU V m) else none) = some a := h
    by_cases hm : m < 3 * V.cnt
    · rw [if_pos hm] at h'
      cases h'
      have hcm := hw m hm
      refine ⟨World.block_lt_of_cell? _ _ hcm, _, hcm, ?_⟩
      by_cases m0 : m % 3 = 0
      · have e : cellU V m = .int .i64 (V.kf (m / 3)) := by unfold cellU; rw [if_pos m0]
        have e2 : valU V m = .int .i64 (V.kf (m / 3)) := by unfold valU; rw [if_pos m0]
        rw [e, e2]; simp only [vrel]
      · by_cases m1 : m % 3 = 1
        · have e : cellU V m = .ostr (2 + 2 * (m / 3)) := by unfold cellU; rw [if_neg m0, if_pos m1]
          have e2 : valU V m = .string (V.nf (m / 3)) := by unfold valU; rw [if_neg m0, if_pos m1]
          rw [e, e2]; simp only [vrel]; rw [hs]
        · have e : cellU V m = .int .i64 (V.af (m / 3)) := by unfold cellU; rw [if_neg m0, if_neg m1]
          have e2 : valU V m = .int .i64 (V.af (m / 3)) := by unfold valU; rw [if_neg m0, if_neg m1]
          rw [e, e2]; simp only [vrel]
    · rw [if_neg hm] at h'
      cases h'
  | (i + 1), h => cases h
theorem words_is {V : Vs} {w : World} (hl : V.cnt ≤ 12) (hcap : V.cnt ≤ V.cap) (hw : ∀ m, m < 3 * V.cnt → w.cell? ⟨V.b, V.o + m, none⟩ = some (valU V m)) : Calls Tryz.prog 13 #[.slice (some ⟨V.b, V.o, none⟩) V.cnt V.cap] w fun e w' => e = .returned (.int .i64 ((Wd V.kf V.cnt : Nat) : Int)) ∧ Below w.heap.size w w' := by
  letI : Tab := plW V.cnt 0 (Wd V.kf V.cnt) V
  have o : @CallOk (plW V.cnt 0 (Wd V.kf V.cnt) V) Tryz.prog 13 [.fo 0 0 3] H.empty (.oi 4, hOf 0 []) := by
    refine @callOk_of Tryz.prog (plW V.cnt 0 (Wd V.kf V.cnt) V) 13 Tryz.f13 wb [.fo 0 0 3] H.empty _ _ Tryz.func13 wb_eq (show 1 ≤ Tryz.f13.ntmps by decide +kernel) (show 1 < limit by decide) fun B w0 μ a w hb s' => ?_
    have hb : Base B μ 0 := hb
    refine firstTo_sound (T := plW V.cnt 0 (Wd V.kf V.cnt) V) (T' := plW V.cnt 0 0 V) (K := Hand.none) (m := 100) (n := 2) mixed (@HandOk.none (plW V.cnt 0 (Wd V.kf V.cnt) V) Tryz.prog) (C := cvW (.int .i64 0)) (rl := []) (vp := []) (fs := [(0, .fo 0 0 3), (3, .oi 4)]) (bs := [])
      hb (Nat.le_refl _) rfl (by kernel_rfl) (ipW (n := 0) (by rfl) (by rfl) (by rfl) (ipKI rfl)) vpNil (glU rfl rfl rfl rfl (strW_at _) (strW_at _)) firstW s' fun a1 w1 s1 => ?_
    rw [w_eq]
    refine wp_seq (wp_seq (wp_mono (startW hb s1) ?_))
    rintro e a2 w2 ⟨rfl, s2⟩
    show (Code.block 0 (.loop wL)).wp _ _ _ _
    refine wp_block (wp_mono (wp_loop_rounds _ (roundsW (Nat.le_refl _) hl hb V.cnt 0 a2 w2 (by omega) s2)) ?_)
    rintro e a3 w3 ⟨rfl, s3⟩
    show wT.wp _ _ _ _
    refine wp_mono (endW hb s3) ?_
    rintro e a4 w4 ⟨rfl, s4⟩
    exact St.done (τ := plW V.cnt 0 (Wd V.kf V.cnt) V) (e := .ret) (.inr rfl) (resW _) s4
  refine (o.closed (args' := #[.slice (some ⟨V.b, V.o, none⟩) V.cnt V.cap]) (vrels_cons (by simp only [vrel]; exact ⟨⟨rfl, Int.natCast_nonneg _⟩, hcap, rfl⟩) (by simp [vrels])) w (gl_V rfl rfl rfl (strW_at _) hw)).mono ?_
  rintro e w' ⟨v', μ', rfl, hr, r⟩
  have hr' : vrel μ' (.oi 4) v' := hr
  simp only [vrel] at hr'
  exact ⟨by rw [hr']; rfl, r.below.toBelow⟩
end Go.Proofs.YtlnkclamdiohnaaGreatDoor.fp
