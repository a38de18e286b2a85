/-
  How many words operands take: the reference's count, for rows of one to twelve.
-/
import Derived.Test.YtlnkclamdiohnaaGreatDoorFPW
set_option linter.unusedVariables false
set_option linter.unusedSimpArgs false
set_option linter.unusedSectionVars false
set_option maxRecDepth 1000000
set_option maxHeartbeats 0
namespace Go.Proofs.YtlnkclamdiohnaaGreatDoor.fp
open Go.X Go.RowKit Go.Proofs
noncomputable def zb : Code := codeOf Tryz.f19
theorem zb_eq : Tryz.f19.body = some zb := by kernel_rfl
noncomputable def zA : Code := hd (hd (restn 2 zb))
noncomputable def zL : Code := lpIn (tl (hd (restn 2 zb)))
noncomputable def zE : Code := tl (restn 2 zb)
theorem z_eq : restn 2 zb = .seq (.seq zA (.block 0 (.loop zL))) zE := by kernel_rfl
section
variable {len i c : Nat} {V : Vs} {B : Kp} {w0 w : World} {μ : M} {a : Act}
noncomputable abbrev fsZ (u : AV) (i : Nat) : List (Nat × AV) := [(0, .fo 0 0 3), (1, .int .i64 99), (5, u), (6, .int .i64 (i : Int))]
def Z0 (len : Nat) (V : Vs) (B : Kp) (w0 : World) (μ : M) (a : Act) (w : World) : Prop := St (plW len 0 0 V) B w0 μ Tryz.f19.ntmps (frOf (fsZ .nils 0)) (hOf 0 []) a w
def Z1 (i len c : Nat) (V : Vs) (B : Kp) (w0 : World) (μ : M) (a : Act) (w : World) : Prop := St (plW len i c V) B w0 μ Tryz.f19.ntmps (frOf (fsZ (.ov 0 4 3) i)) (hOf 1 (bV 0)) a w
noncomputable abbrev el0 (i : Nat) : List AV := [.oi 2, .ostr (2 + 2 * i), .oi 3]
noncomputable abbrev el9 : List AV := [.int .i64 99, .str 0 0, .int .i64 0]
noncomputable abbrev va1 (i : Nat) : List VA := [⟨0, 4, 3, el0 i, 0, 5⟩]
noncomputable abbrev va4 (i : Nat) : List VA := [⟨0, 4, 3, el0 i, 0, 5⟩, ⟨0, 5, 3, el9, 0, 6⟩]
theorem va1_ok (hc : c < 100) : ∀ r ∈ va1 i, VaOk (ivW len i c V) noV noK r := allCons (va0 (a := (c : Int)) (b := ((c + 1 : Nat) : Int)) (c := 1) rfl rfl (by omega) rfl (by omega) (by omega)) allNil
theorem va4_ok (hc : c < 100) : ∀ r ∈ va4 i, VaOk (ivW len i c V) noV noK r := allCons (va0 (a := (c : Int)) (b := ((c + 1 : Nat) : Int)) (c := 1) rfl rfl (by omega) rfl (by omega) (by omega)) (allCons (va0 (a := ((c + 1 : Nat) : Int)) (b := ((c + 2 : Nat) : Int)) (c := 1) rfl rfl (by omega) rfl (by omega) (by omega)) allNil)
noncomputable abbrev cvZ (x : Nat) (j : AV) : Cv := ⟨0, 1, ofPairs [(0, x)], [(.fo 0 0 3, 0), (.oi 0, 0), (j, 4)]⟩
def GZa1 : Prop := ∀ len V hl hcn hk hc, runTo (TW1 len 0 0 V hl hcn hk hc (va1 0) (va1_ok hc)) Tryz.prog Hand.none 100 Tryz.f19.ntmps zL (frOf (fsZ .nils 0)) (hOf 0 []) .normal (cvZ 1 (.int .i64 1)) [(1, rowOf (el0 0) true, 0)] (fsZ (.ov 0 4 3) 1) (bV 1) = true
theorem goZa1 (hg : GZa1) (hb : Base B μ 0) (hl : 0 < len) (hcn : len ≤ V.cnt) (hk : ¬ V.kf 0 = 4) (hc : 0 < 100) (s' : Z0 len V B w0 μ a w) : zL.wp Tryz.prog (fun e a' w' => e = .normal ∧ Z1 1 len (1) V B w0 μ a' w') a w :=
  runTo_sound (fr := frOf (fsZ .nils 0)) (h := hOf 0 []) (T := TW1 len 0 0 V hl hcn hk hc (va1 0) (va1_ok hc)) (T' := plW len 1 (1) V) (K := Hand.none) (n := 100) mixed (@HandOk.none (TW1 len 0 0 V hl hcn hk hc (va1 0) (va1_ok hc)) Tryz.prog) (C := cvZ 1 (.int .i64 1)) (rl := [(0, 1)]) (ex := .normal) (vp := [(1, rowOf (el0 0) true, 0)]) (fs := fsZ (.ov 0 4 3) 1) (bs := bV 1)
    hb (Nat.zero_le _) rfl (by kernel_rfl) (ipW (n := 0) (by rfl) (by rfl) (by rfl) (ipKI rfl)) (vpCons (toVec rfl (fun _ => rfl) rfl) vpNil) (glU rfl rfl rfl rfl (strW_at _) (strW_at _)) (hg len V hl hcn hk hc) (St.same sameTFa s')
def GZa4 : Prop := ∀ len V hl hcn hk hc, runTo (TW4 len 0 0 V hl hcn hk hc (va4 0) (va4_ok hc)) Tryz.prog Hand.none 100 Tryz.f19.ntmps zL (frOf (fsZ .nils 0)) (hOf 0 []) .normal (cvZ 4 (.int .i64 2)) [(4, rowOf (el0 0 ++ el9) true, 0)] (fsZ (.ov 0 4 3) 1) (bV 4) = true
theorem goZa4 (hg : GZa4) (hb : Base B μ 0) (hl : 0 < len) (hcn : len ≤ V.cnt) (hk : V.kf 0 = 4) (hc : 0 < 100) (s' : Z0 len V B w0 μ a w) : zL.wp Tryz.prog (fun e a' w' => e = .normal ∧ Z1 1 len (2) V B w0 μ a' w') a w :=
  runTo_sound (fr := frOf (fsZ .nils 0)) (h := hOf 0 []) (T := TW4 len 0 0 V hl hcn hk hc (va4 0) (va4_ok hc)) (T' := plW len 1 (2) V) (K := Hand.none) (n := 100) mixed (@HandOk.none (TW4 len 0 0 V hl hcn hk hc (va4 0) (va4_ok hc)) Tryz.prog) (C := cvZ 4 (.int .i64 2)) (rl := [(0, 4)]) (ex := .normal) (vp := [(4, rowOf (el0 0 ++ el9) true, 0)]) (fs := fsZ (.ov 0 4 3) 1) (bs := bV 4)
    hb (Nat.zero_le _) rfl (by kernel_rfl) (ipW (n := 0) (by rfl) (by rfl) (by rfl) (ipKI rfl)) (vpCons (toVec rfl (fun _ => rfl) rfl) vpNil) (glU rfl rfl rfl rfl (strW_at _) (strW_at _)) (hg len V hl hcn hk hc) (St.same sameTFa s')
def GZb1 (i : Nat) : Prop := ∀ len c V hl hcn hk hc, runTo (TW1 len i c V hl hcn hk hc (va1 i) (va1_ok hc)) Tryz.prog Hand.none 100 Tryz.f19.ntmps zL (frOf (fsZ (.ov 0 4 3) i)) (hOf 1 (bV 0)) .normal (cvZ 2 (.oi 5)) [(2, .vec 0, 0)] (fsZ (.ov 0 4 3) (i + 1)) (bV 2) = true
theorem goZb1 (hg : GZb1 i) (hb : Base B μ 0) (hl : i < len) (hcn : len ≤ V.cnt) (hk : ¬ V.kf i = 4) (hc : c < 100) (s' : Z1 i len c V B w0 μ a w) : zL.wp Tryz.prog (fun e a' w' => e = .normal ∧ Z1 (i + 1) len (c + 1) V B w0 μ a' w') a w :=
  runTo_sound (fr := frOf (fsZ (.ov 0 4 3) i)) (h := hOf 1 (bV 0)) (T := TW1 len i c V hl hcn hk hc (va1 i) (va1_ok hc)) (T' := plW len (i + 1) (c + 1) V) (K := Hand.none) (n := 100) mixed (@HandOk.none (TW1 len i c V hl hcn hk hc (va1 i) (va1_ok hc)) Tryz.prog) (C := cvZ 2 (.oi 5)) (rl := [(0, 2)]) (ex := .normal) (vp := [(2, .vec 0, 0)]) (fs := fsZ (.ov 0 4 3) (i + 1)) (bs := bV 2)
    hb (Nat.zero_le _) rfl (by kernel_rfl) (ipW (n := 0) (by rfl) (by rfl) (by rfl) (ipO (.i64, ((c + 1 : Nat) : Int)) rfl rfl)) (vpCons (toVec rfl (fun _ => rfl) rfl) vpNil) (glU rfl rfl rfl rfl (strW_at _) (strW_at _)) (hg len c V hl hcn hk hc) (St.same sameTFa s')
def GZb4 (i : Nat) : Prop := ∀ len c V hl hcn hk hc, runTo (TW4 len i c V hl hcn hk hc (va4 i) (va4_ok hc)) Tryz.prog Hand.none 100 Tryz.f19.ntmps zL (frOf (fsZ (.ov 0 4 3) i)) (hOf 1 (bV 0)) .normal (cvZ 5 (.oi 6)) [(5, .vec 0, 0)] (fsZ (.ov 0 4 3) (i + 1)) (bV 5) = true
theorem goZb4 (hg : GZb4 i) (hb : Base B μ 0) (hl : i < len) (hcn : len ≤ V.cnt) (hk : V.kf i = 4) (hc : c < 100) (s' : Z1 i len c V B w0 μ a w) : zL.wp Tryz.prog (fun e a' w' => e = .normal ∧ Z1 (i + 1) len (c + 2) V B w0 μ a' w') a w :=
  runTo_sound (fr := frOf (fsZ (.ov 0 4 3) i)) (h := hOf 1 (bV 0)) (T := TW4 len i c V hl hcn hk hc (va4 i) (va4_ok hc)) (T' := plW len (i + 1) (c + 2) V) (K := Hand.none) (n := 100) mixed (@HandOk.none (TW4 len i c V hl hcn hk hc (va4 i) (va4_ok hc)) Tryz.prog) (C := cvZ 5 (.oi 6)) (rl := [(0, 5)]) (ex := .normal) (vp := [(5, .vec 0, 0)]) (fs := fsZ (.ov 0 4 3) (i + 1)) (bs := bV 5)
    hb (Nat.zero_le _) rfl (by kernel_rfl) (ipW (n := 0) (by rfl) (by rfl) (by rfl) (ipO (.i64, ((c + 2 : Nat) : Int)) rfl rfl)) (vpCons (toVec rfl (fun _ => rfl) rfl) vpNil) (glU rfl rfl rfl rfl (strW_at _) (strW_at _)) (hg len c V hl hcn hk hc) (St.same sameTFa s')
def GZX (i : Nat) : Prop := ∀ len c V hl, runTo (TWX len i c V hl) Tryz.prog Hand.none 100 Tryz.f19.ntmps zL (frOf (fsZ (.ov 0 4 3) i)) (hOf 1 (bV 0)) (.exit 0) (cvZ 0 (.oi 4)) [(0, .vec 0, 0)] [(5, .ov 0 4 3)] (bV 0) = true
def EZ (len c : Nat) (V : Vs) (B : Kp) (w0 : World) (μ : M) (a : Act) (w : World) : Prop := St (plW len 0 c V) B w0 μ Tryz.f19.ntmps (frOf [(5, .ov 0 4 3)]) (hOf 1 (bV 0)) a w
theorem outZ (hg : GZX i) (hb : Base B μ 0) (hl : ¬ i < len) (s' : Z1 i len c V B w0 μ a w) : zL.wp Tryz.prog (fun e a' w' => e = .exit 0 ∧ EZ len c V B w0 μ a' w') a w :=
  runTo_sound (fr := frOf (fsZ (.ov 0 4 3) i)) (h := hOf 1 (bV 0)) (T := TWX len i c V hl) (T' := plW len 0 c V) (K := Hand.none) (n := 100) mixed (@HandOk.none (TWX len i c V hl) Tryz.prog) (C := cvZ 0 (.oi 4)) (rl := [(0, 0)]) (ex := .exit 0) (vp := [(0, .vec 0, 0)]) (fs := [(5, .ov 0 4 3)]) (bs := bV 0)
    hb (Nat.zero_le _) rfl (by kernel_rfl) (ipW (n := 0) (by rfl) (by rfl) (by rfl) (ipO (.i64, (c : Int)) rfl rfl)) (vpCons (toVec rfl (fun _ => rfl) rfl) vpNil) (glU rfl rfl rfl rfl (strW_at _) (strW_at _)) (hg len c V hl) (St.same sameTFa s')
theorem gZa1 : GZa1 := fun len V hl hcn hk hc => (by as_aux_lemma => kernel_rfl)
theorem gZa4 : GZa4 := fun len V hl hcn hk hc => (by as_aux_lemma => kernel_rfl)
theorem gZb4_1 : GZb4 1 := fun len c V hl hcn hk hc => (by as_aux_lemma => kernel_rfl)
theorem gZb1_1 : GZb1 1 := fun len c V hl hcn hk hc => (by as_aux_lemma => kernel_rfl)
theorem gZX_1 : GZX 1 := fun len c V hl => (by as_aux_lemma => kernel_rfl)
theorem gZb4_2 : GZb4 2 := fun len c V hl hcn hk hc => (by as_aux_lemma => kernel_rfl)
theorem gZb1_2 : GZb1 2 := fun len c V hl hcn hk hc => (by as_aux_lemma => kernel_rfl)
theorem gZX_2 : GZX 2 := fun len c V hl => (by as_aux_lemma => kernel_rfl)
theorem gZb4_3 : GZb4 3 := fun len c V hl hcn hk hc => (by as_aux_lemma => kernel_rfl)
theorem gZb1_3 : GZb1 3 := fun len c V hl hcn hk hc => (by as_aux_lemma => kernel_rfl)
theorem gZX_3 : GZX 3 := fun len c V hl => (by as_aux_lemma => kernel_rfl)
theorem gZb4_4 : GZb4 4 := fun len c V hl hcn hk hc => (by as_aux_lemma => kernel_rfl)
theorem gZb1_4 : GZb1 4 := fun len c V hl hcn hk hc => (by as_aux_lemma => kernel_rfl)
theorem gZX_4 : GZX 4 := fun len c V hl => (by as_aux_lemma => kernel_rfl)
theorem gZb4_5 : GZb4 5 := fun len c V hl hcn hk hc => (by as_aux_lemma => kernel_rfl)
theorem gZb1_5 : GZb1 5 := fun len c V hl hcn hk hc => (by as_aux_lemma => kernel_rfl)
theorem gZX_5 : GZX 5 := fun len c V hl => (by as_aux_lemma => kernel_rfl)
theorem gZb4_6 : GZb4 6 := fun len c V hl hcn hk hc => (by as_aux_lemma => kernel_rfl)
theorem gZb1_6 : GZb1 6 := fun len c V hl hcn hk hc => (by as_aux_lemma => kernel_rfl)
theorem gZX_6 : GZX 6 := fun len c V hl => (by as_aux_lemma => kernel_rfl)
theorem gZb4_7 : GZb4 7 := fun len c V hl hcn hk hc => (by as_aux_lemma => kernel_rfl)
theorem gZb1_7 : GZb1 7 := fun len c V hl hcn hk hc => (by as_aux_lemma => kernel_rfl)
theorem gZX_7 : GZX 7 := fun len c V hl => (by as_aux_lemma => kernel_rfl)
theorem gZb4_8 : GZb4 8 := fun len c V hl hcn hk hc => (by as_aux_lemma => kernel_rfl)
theorem gZb1_8 : GZb1 8 := fun len c V hl hcn hk hc => (by as_aux_lemma => kernel_rfl)
theorem gZX_8 : GZX 8 := fun len c V hl => (by as_aux_lemma => kernel_rfl)
theorem gZb4_9 : GZb4 9 := fun len c V hl hcn hk hc => (by as_aux_lemma => kernel_rfl)
theorem gZb1_9 : GZb1 9 := fun len c V hl hcn hk hc => (by as_aux_lemma => kernel_rfl)
theorem gZX_9 : GZX 9 := fun len c V hl => (by as_aux_lemma => kernel_rfl)
theorem gZb4_10 : GZb4 10 := fun len c V hl hcn hk hc => (by as_aux_lemma => kernel_rfl)
theorem gZb1_10 : GZb1 10 := fun len c V hl hcn hk hc => (by as_aux_lemma => kernel_rfl)
theorem gZX_10 : GZX 10 := fun len c V hl => (by as_aux_lemma => kernel_rfl)
theorem gZb4_11 : GZb4 11 := fun len c V hl hcn hk hc => (by as_aux_lemma => kernel_rfl)
theorem gZb1_11 : GZb1 11 := fun len c V hl hcn hk hc => (by as_aux_lemma => kernel_rfl)
theorem gZX_11 : GZX 11 := fun len c V hl => (by as_aux_lemma => kernel_rfl)
theorem gZX_12 : GZX 12 := fun len c V hl => (by as_aux_lemma => kernel_rfl)
theorem aZb4 : ∀ i, 1 ≤ i → i < 12 → GZb4 i
  | 0, h, _ => absurd h (by decide)
  | 1, _, _ => gZb4_1
  | 2, _, _ => gZb4_2
  | 3, _, _ => gZb4_3
  | 4, _, _ => gZb4_4
  | 5, _, _ => gZb4_5
  | 6, _, _ => gZb4_6
  | 7, _, _ => gZb4_7
  | 8, _, _ => gZb4_8
  | 9, _, _ => gZb4_9
  | 10, _, _ => gZb4_10
  | 11, _, _ => gZb4_11
  | i + 12, _, h => absurd h (by omega)
theorem aZb1 : ∀ i, 1 ≤ i → i < 12 → GZb1 i
  | 0, h, _ => absurd h (by decide)
  | 1, _, _ => gZb1_1
  | 2, _, _ => gZb1_2
  | 3, _, _ => gZb1_3
  | 4, _, _ => gZb1_4
  | 5, _, _ => gZb1_5
  | 6, _, _ => gZb1_6
  | 7, _, _ => gZb1_7
  | 8, _, _ => gZb1_8
  | 9, _, _ => gZb1_9
  | 10, _, _ => gZb1_10
  | 11, _, _ => gZb1_11
  | i + 12, _, h => absurd h (by omega)
theorem aZX : ∀ i, 1 ≤ i → i < 13 → GZX i
  | 0, h, _ => absurd h (by decide)
  | 1, _, _ => gZX_1
  | 2, _, _ => gZX_2
  | 3, _, _ => gZX_3
  | 4, _, _ => gZX_4
  | 5, _, _ => gZX_5
  | 6, _, _ => gZX_6
  | 7, _, _ => gZX_7
  | 8, _, _ => gZX_8
  | 9, _, _ => gZX_9
  | 10, _, _ => gZX_10
  | 11, _, _ => gZX_11
  | 12, _, _ => gZX_12
  | i + 13, _, h => absurd h (by omega)
theorem roundsZ (hcn : len ≤ V.cnt) (hl : len ≤ 12) (hb : Base B μ 0) : ∀ (j i : Nat) (a : Act) (w : World), i + j = len → 1 ≤ i → Z1 i len (Wd V.kf i) V B w0 μ a w → Code.rounds Tryz.prog zL (fun e a w => e = .exit 0 ∧ EZ len (Wd V.kf len) V B w0 μ a w) (j + 1) a w
  | 0, i, a, w, h, h1, s => by
    refine rounds_of (wp_mono (outZ (aZX i h1 (by omega)) hb (by omega) s) ?_)
    rintro e a' w' ⟨rfl, s2⟩
    rw [show i = len by omega] at s2
    exact ⟨rfl, s2⟩
  | j + 1, i, a, w, h, h1, s => by
    have hc : Wd V.kf i < 100 := by have := Wd_le V.kf i; omega
    by_cases hk : V.kf i = 4
    · refine rounds_of (wp_mono (goZb4 (aZb4 i h1 (by omega)) hb (by omega) hcn hk hc s) ?_)
      rintro e a' w' ⟨rfl, s2⟩
      exact roundsZ hcn hl hb j (i + 1) a' w' (by omega) (by omega) (by rw [Wd4 hk]; exact s2)
    · refine rounds_of (wp_mono (goZb1 (aZb1 i h1 (by omega)) hb (by omega) hcn hk hc s) ?_)
      rintro e a' w' ⟨rfl, s2⟩
      exact roundsZ hcn hl hb j (i + 1) a' w' (by omega) (by omega) (by rw [Wd1 hk]; exact s2)
theorem roundsZ0 (hcn : len ≤ V.cnt) (hl : len ≤ 12) (h1 : 1 ≤ len) (hb : Base B μ 0) (s : Z0 len V B w0 μ a w) : Code.rounds Tryz.prog zL (fun e a w => e = .exit 0 ∧ EZ len (Wd V.kf len) V B w0 μ a w) (len + 1) a w := by
  obtain ⟨j, rfl⟩ : ∃ j, len = j + 1 := ⟨len - 1, by omega⟩
  by_cases hk : V.kf 0 = 4
  · refine rounds_of (wp_mono (goZa4 gZa4 hb (by omega) hcn hk (by decide) s) ?_)
    rintro e a' w' ⟨rfl, s2⟩
    have e2 : Wd V.kf 1 = 2 := Wd4 (t := 0) hk
    exact roundsZ hcn hl hb j 1 a' w' (by omega) (by omega) (by rw [e2]; exact s2)
  · refine rounds_of (wp_mono (goZa1 gZa1 hb (by omega) hcn hk (by decide) s) ?_)
    rintro e a' w' ⟨rfl, s2⟩
    have e2 : Wd V.kf 1 = 1 := Wd1 (t := 0) hk
    exact roundsZ hcn hl hb j 1 a' w' (by omega) (by omega) (by rw [e2]; exact s2)
noncomputable abbrev cvZ0 : Cv := ⟨0, 0, ofPairs [], [(.fo 0 0 3, 0), (.oi 0, 0)]⟩
theorem firstZ : firstTo (plW len 0 c V) Tryz.prog Hand.none 100 Tryz.f19.ntmps 2 zb (T.ofList 0 .leaf [.fo 0 0 3, .int .i64 99]) H.empty cvZ0 [] [(0, .fo 0 0 3), (1, .int .i64 99), (5, .nils)] [] = true := by kernel_rfl
theorem startZ (hb : Base B μ 0) (s' : St (plW len 0 0 V) B w0 μ Tryz.f19.ntmps (frOf [(0, .fo 0 0 3), (1, .int .i64 99), (5, .nils)]) (hOf 0 []) a w) : zA.wp Tryz.prog (fun e a' w' => e = .normal ∧ Z0 len V B w0 μ a' w') a w :=
  runTo_sound (T := plW len 0 0 V) (T' := plW len 0 0 V) (K := Hand.none) (n := 100) mixed (@HandOk.none (plW len 0 0 V) Tryz.prog) (C := cvZ0) (rl := []) (ex := .normal) (vp := []) (fs := fsZ .nils 0) (bs := [])
    hb (Nat.zero_le _) rfl (by kernel_rfl) (ipCons (ipF0' rfl rfl) (ipCons (ipO (.i64, (len : Int)) rfl rfl) ipNil)) vpNil (glU rfl rfl rfl rfl (strW_at _) (strW_at _)) (by as_aux_lemma => kernel_rfl) s'
theorem endZ (hb : Base B μ 0) (s' : EZ len c V B w0 μ a w) : zE.wp Tryz.prog (fun e a' w' => e = .ret ∧ St (plW len 0 c V) B w0 μ Tryz.f19.ntmps (frOf [(4, .ov 0 4 3)]) (hOf 1 (bV 0)) a' w') a w :=
  runTo_sound (fr := frOf [(5, .ov 0 4 3)]) (h := hOf 1 (bV 0)) (T := plW len 0 c V) (T' := plW len 0 c V) (K := Hand.none) (n := 100) mixed (@HandOk.none (plW len 0 c V) Tryz.prog) (C := cvZ 0 (.oi 4)) (rl := [(0, 0)]) (ex := .ret) (vp := [(0, .vec 0, 0)]) (fs := [(4, .ov 0 4 3)]) (bs := bV 0)
    hb (Nat.zero_le _) rfl (by kernel_rfl) (ipW (n := 0) (by rfl) (by rfl) (by rfl) (ipO (.i64, (c : Int)) rfl rfl)) (vpCons (toVec rfl (fun _ => rfl) rfl) vpNil) (glU rfl rfl rfl rfl (strW_at _) (strW_at _)) (by as_aux_lemma => kernel_rfl) s'
end
theorem resZ (h : H) : results? Tryz.prog Tryz.f19 (frOf [(4, .ov 0 4 3)]) h = some (.ov 0 4 3) := by kernel_rfl
theorem callZ {V : Vs} (hl : V.cnt ≤ 12) (h1 : 1 ≤ V.cnt) : @CallOk (plW V.cnt 0 (Wd V.kf V.cnt) V) Tryz.prog 19 [.fo 0 0 3, .int .i64 99] H.empty (.ov 0 4 3, hOf 1 (bV 0)) := by
  refine @callOk_of Tryz.prog (plW V.cnt 0 (Wd V.kf V.cnt) V) 19 Tryz.f19 zb [.fo 0 0 3, .int .i64 99] H.empty _ _ Tryz.func19 zb_eq (show 2 ≤ Tryz.f19.ntmps by decide +kernel) (show 2 < limit by decide) fun B w0 μ a w hb s' => ?_
  have hb : Base B μ 0 := hb
  refine firstTo_sound (T := plW V.cnt 0 (Wd V.kf V.cnt) V) (T' := plW V.cnt 0 0 V) (K := Hand.none) (m := 100) (n := 2) mixed (@HandOk.none (plW V.cnt 0 (Wd V.kf V.cnt) V) Tryz.prog) (C := cvZ0) (rl := []) (vp := []) (fs := [(0, .fo 0 0 3), (1, .int .i64 99), (5, .nils)]) (bs := [])
    hb (Nat.le_refl _) rfl (by kernel_rfl) (ipCons (ipF0' rfl rfl) (ipCons (ipO (.i64, (V.cnt : Int)) rfl rfl) ipNil)) vpNil (glU rfl rfl rfl rfl (strW_at _) (strW_at _)) firstZ s' fun a1 w1 s1 => ?_
  rw [z_eq]
  refine wp_seq (wp_seq (wp_mono (startZ hb s1) ?_))
  rintro e a2 w2 ⟨rfl, s2⟩
  show (Code.block 0 (.loop zL)).wp _ _ _ _
  refine wp_block (wp_mono (wp_loop_rounds _ (roundsZ0 (Nat.le_refl _) hl h1 hb s2)) ?_)
  rintro e a3 w3 ⟨rfl, s3⟩
  show zE.wp _ _ _ _
  refine wp_mono (endZ hb s3) ?_
  rintro e a4 w4 ⟨rfl, s4⟩
  exact St.done (τ := plW V.cnt 0 (Wd V.kf V.cnt) V) (e := .ret) (.inr rfl) (resZ _) s4
theorem hand19 {V : Vs} (hl : V.cnt ≤ 12) (h1 : 1 ≤ V.cnt) : @HandOk (plW V.cnt 0 (Wd V.kf V.cnt) V) Tryz.prog (handAt 19 [.fo 0 0 3, .int .i64 99] H.empty (.ov 0 4 3, hOf 1 (bV 0))) := @handAt_ok Tryz.prog (plW V.cnt 0 (Wd V.kf V.cnt) V) _ _ _ _ (callZ hl h1)
theorem runRW (V : Vs) : @retIs (plW V.cnt 0 (Wd V.kf V.cnt) V) (handAt 19 [.fo 0 0 3, .int .i64 99] H.empty (.ov 0 4 3, hOf 1 (bV 0))) 100 8 [.fo 0 0 3] (.oi 4) = true := by as_aux_lemma => kernel_rfl
theorem rwords_is {V : Vs} {w : World} (hl : V.cnt ≤ 12) (h1 : 1 ≤ V.cnt) (hcap : V.cnt ≤ V.cap) (hw : ∀ m, m < 3 * V.cnt → w.cell? ⟨V.b, V.o + m, none⟩ = some (valU V m)) : Calls Tryz.prog 8 #[.slice (some ⟨V.b, V.o, none⟩) V.cnt V.cap] w fun e w' => e = .returned (.int .i64 ((Wd V.kf V.cnt : Nat) : Int)) ∧ Below w.heap.size w w' := by
  letI : Tab := plW V.cnt 0 (Wd V.kf V.cnt) V
  obtain ⟨q, o⟩ := ret_of (hand19 hl h1) (runRW V)
  refine (o.closed (args' := #[.slice (some ⟨V.b, V.o, none⟩) V.cnt V.cap]) (vrels_cons (by simp only [vrel]; exact ⟨⟨rfl, Int.natCast_nonneg _⟩, hcap, rfl⟩) (by simp [vrels])) w (gl_V rfl rfl rfl (strW_at _) hw)).mono ?_
  rintro e w' ⟨v', μ', rfl, hr, r⟩
  have hr' : vrel μ' (.oi 4) v' := hr
  simp only [vrel] at hr'
  exact ⟨by rw [hr']; rfl, r.below.toBelow⟩
end Go.Proofs.YtlnkclamdiohnaaGreatDoor.fp
