/-
  Rounds of the law TopMarks.
-/
import Derived.Test.YtedimikdpclpnaaGreatDoorMAS
set_option linter.unusedSectionVars false
set_option linter.unusedVariables false
set_option maxRecDepth 1000000
set_option maxHeartbeats 0
namespace Go.Proofs.YtedimikdpclpnaaGreatDoor.ma
open Go.X Go.RowKit
section
variable {w0 : World} {a : Act} {w : World}
theorem go36 {x : Int} (x1 : 1 ≤ x) (x2 : x < 10) {Q : Exit → Act → World → Prop} {j : Nat} (s : L36 x w0 a w) (hQ : ∀ a' w', L42 (x - 1) w0 a' w' → Code.rounds Tryz.prog laL Q j a' w') : Code.rounds Tryz.prog laL Q (j + 6) a w :=
  stepsTo_sound (T := (RG x1 x2).tab) (T' := PL (x - 1)) (K := K_top0) (m := 5000) mixed (@K_top0_ok ((RG x1 x2).tab)) (C := ⟨0, 19270, ofPairs rl42, [(.oi 2, 0)]⟩) (ex := .normal) (rl := rl42) (vp := []) (fs := fs42) (bs := bs42)
    (Base.none _) (Nat.zero_le _) rfl (by kernel_rfl) (ipCons (ipN (.i64, x - 1) rfl rfl) ipNil) vpNil (glNone rfl rfl) (by as_aux_lemma => kernel_rfl) (St.same (VRows.same _ _) s) hQ
theorem go42 {x : Int} (x1 : 1 ≤ x) (x2 : x < 10) {Q : Exit → Act → World → Prop} {j : Nat} (s : L42 x w0 a w) (hQ : ∀ a' w', L48 (x) w0 a' w' → Code.rounds Tryz.prog laL Q j a' w') : Code.rounds Tryz.prog laL Q (j + 6) a w :=
  stepsTo_sound (T := (RG x1 x2).tab) (T' := PL (x)) (K := K_top0) (m := 5000) mixed (@K_top0_ok ((RG x1 x2).tab)) (C := ⟨0, 19683, ofPairs rl48, [(.oi 0, 0)]⟩) (ex := .normal) (rl := rl48) (vp := []) (fs := fs48) (bs := bs48)
    (Base.none _) (Nat.zero_le _) rfl (by kernel_rfl) (ipCons (ipN (.i64, x) rfl rfl) ipNil) vpNil (glNone rfl rfl) (by as_aux_lemma => kernel_rfl) (St.same (VRows.same _ _) s) hQ
theorem go48 {x : Int} (x1 : 1 ≤ x) (x2 : x < 10) {Q : Exit → Act → World → Prop} {j : Nat} (s : L48 x w0 a w) (hQ : ∀ a' w', L54 (x - 1) w0 a' w' → Code.rounds Tryz.prog laL Q j a' w') : Code.rounds Tryz.prog laL Q (j + 6) a w :=
  stepsTo_sound (T := (RG x1 x2).tab) (T' := PL (x - 1)) (K := K_top0) (m := 5000) mixed (@K_top0_ok ((RG x1 x2).tab)) (C := ⟨0, 19953, ofPairs rl54, [(.oi 2, 0)]⟩) (ex := .normal) (rl := rl54) (vp := []) (fs := fs54) (bs := bs54)
    (Base.none _) (Nat.zero_le _) rfl (by kernel_rfl) (ipCons (ipN (.i64, x - 1) rfl rfl) ipNil) vpNil (glNone rfl rfl) (by as_aux_lemma => kernel_rfl) (St.same (VRows.same _ _) s) hQ
theorem go54 {x : Int} (x1 : 1 ≤ x) (x2 : x < 10) {Q : Exit → Act → World → Prop} {j : Nat} (s : L54 x w0 a w) (hQ : ∀ a' w', L60 (x) w0 a' w' → Code.rounds Tryz.prog laL Q j a' w') : Code.rounds Tryz.prog laL Q (j + 6) a w :=
  stepsTo_sound (T := (RG x1 x2).tab) (T' := PL (x)) (K := K_top0) (m := 5000) mixed (@K_top0_ok ((RG x1 x2).tab)) (C := ⟨0, 20366, ofPairs rl60, [(.oi 0, 0)]⟩) (ex := .normal) (rl := rl60) (vp := []) (fs := fs60) (bs := bs60)
    (Base.none _) (Nat.zero_le _) rfl (by kernel_rfl) (ipCons (ipN (.i64, x) rfl rfl) ipNil) vpNil (glNone rfl rfl) (by as_aux_lemma => kernel_rfl) (St.same (VRows.same _ _) s) hQ
theorem go60 {x : Int} (x1 : 1 ≤ x) (x2 : x < 10) {Q : Exit → Act → World → Prop} {j : Nat} (s : L60 x w0 a w) (hQ : ∀ a' w', L66 (x - 1) w0 a' w' → Code.rounds Tryz.prog laL Q j a' w') : Code.rounds Tryz.prog laL Q (j + 6) a w :=
  stepsTo_sound (T := (RG x1 x2).tab) (T' := PL (x - 1)) (K := K_top0) (m := 5000) mixed (@K_top0_ok ((RG x1 x2).tab)) (C := ⟨0, 20636, ofPairs rl66, [(.oi 2, 0)]⟩) (ex := .normal) (rl := rl66) (vp := []) (fs := fs66) (bs := bs66)
    (Base.none _) (Nat.zero_le _) rfl (by kernel_rfl) (ipCons (ipN (.i64, x - 1) rfl rfl) ipNil) vpNil (glNone rfl rfl) (by as_aux_lemma => kernel_rfl) (St.same (VRows.same _ _) s) hQ
theorem go66 {x : Int} (x1 : 1 ≤ x) (x2 : x < 10) {Q : Exit → Act → World → Prop} {j : Nat} (s : L66 x w0 a w) (hQ : ∀ a' w', L72 (x) w0 a' w' → Code.rounds Tryz.prog laL Q j a' w') : Code.rounds Tryz.prog laL Q (j + 6) a w :=
  stepsTo_sound (T := (RG x1 x2).tab) (T' := PL (x)) (K := K_top0) (m := 5000) mixed (@K_top0_ok ((RG x1 x2).tab)) (C := ⟨0, 21049, ofPairs rl72, [(.oi 0, 0)]⟩) (ex := .normal) (rl := rl72) (vp := []) (fs := fs72) (bs := bs72)
    (Base.none _) (Nat.zero_le _) rfl (by kernel_rfl) (ipCons (ipN (.i64, x) rfl rfl) ipNil) vpNil (glNone rfl rfl) (by as_aux_lemma => kernel_rfl) (St.same (VRows.same _ _) s) hQ
end
end Go.Proofs.YtedimikdpclpnaaGreatDoor.ma
