/-
  Rounds of the law TopMarks.
-/
import Derived.Test.YtedimikdpclpnaaGreatDoorMAS
set_option linter.unusedSectionVars false
set_option linter.unusedVariables false
set_option maxRecDepth 1000000
set_option maxHeartbeats 0
namespace Go.Proofs.YtedimikdpclpnaaGreatDoor.ma
open Go.X Go.RowKit
section
variable {w0 : World} {a : Act} {w : World}
theorem go72 {x : Int} (x1 : 1 ≤ x) (x2 : x < 10) {Q : Exit → Act → World → Prop} {j : Nat} (s : L72 x w0 a w) (hQ : ∀ a' w', L78 (x - 1) w0 a' w' → Code.rounds Tryz.prog laL Q j a' w') : Code.rounds Tryz.prog laL Q (j + 6) a w :=
  stepsTo_sound (T := (RG x1 x2).tab) (T' := PL (x - 1)) (K := K_top0) (m := 5000) mixed (@K_top0_ok ((RG x1 x2).tab)) (C := ⟨0, 21319, ofPairs rl78, [(.oi 2, 0)]⟩) (ex := .normal) (rl := rl78) (vp := []) (fs := fs78) (bs := bs78)
    (Base.none _) (Nat.zero_le _) rfl (by kernel_rfl) (ipCons (ipN (.i64, x - 1) rfl rfl) ipNil) vpNil (glNone rfl rfl) (by as_aux_lemma => kernel_rfl) (St.same (VRows.same _ _) s) hQ
theorem go78 {x : Int} (x1 : 1 ≤ x) (x2 : x < 10) {Q : Exit → Act → World → Prop} {j : Nat} (s : L78 x w0 a w) (hQ : ∀ a' w', L84 (x) w0 a' w' → Code.rounds Tryz.prog laL Q j a' w') : Code.rounds Tryz.prog laL Q (j + 6) a w :=
  stepsTo_sound (T := (RG x1 x2).tab) (T' := PL (x)) (K := K_top0) (m := 5000) mixed (@K_top0_ok ((RG x1 x2).tab)) (C := ⟨0, 21732, ofPairs rl84, [(.oi 0, 0)]⟩) (ex := .normal) (rl := rl84) (vp := []) (fs := fs84) (bs := bs84)
    (Base.none _) (Nat.zero_le _) rfl (by kernel_rfl) (ipCons (ipN (.i64, x) rfl rfl) ipNil) vpNil (glNone rfl rfl) (by as_aux_lemma => kernel_rfl) (St.same (VRows.same _ _) s) hQ
theorem go84 {x : Int} (x1 : 1 ≤ x) (x2 : x < 10) {Q : Exit → Act → World → Prop} {j : Nat} (s : L84 x w0 a w) (hQ : ∀ a' w', L90 (x - 1) w0 a' w' → Code.rounds Tryz.prog laL Q j a' w') : Code.rounds Tryz.prog laL Q (j + 6) a w :=
  stepsTo_sound (T := (RG x1 x2).tab) (T' := PL (x - 1)) (K := K_top0) (m := 5000) mixed (@K_top0_ok ((RG x1 x2).tab)) (C := ⟨0, 22002, ofPairs rl90, [(.oi 2, 0)]⟩) (ex := .normal) (rl := rl90) (vp := []) (fs := fs90) (bs := bs90)
    (Base.none _) (Nat.zero_le _) rfl (by kernel_rfl) (ipCons (ipN (.i64, x - 1) rfl rfl) ipNil) vpNil (glNone rfl rfl) (by as_aux_lemma => kernel_rfl) (St.same (VRows.same _ _) s) hQ
theorem go90 {x : Int} (x1 : 1 ≤ x) (x2 : x < 10) {Q : Exit → Act → World → Prop} {j : Nat} (s : L90 x w0 a w) (hQ : ∀ a' w', L96 (x) w0 a' w' → Code.rounds Tryz.prog laL Q j a' w') : Code.rounds Tryz.prog laL Q (j + 6) a w :=
  stepsTo_sound (T := (RG x1 x2).tab) (T' := PL (x)) (K := K_top0) (m := 5000) mixed (@K_top0_ok ((RG x1 x2).tab)) (C := ⟨0, 22415, ofPairs rl96, [(.oi 0, 0)]⟩) (ex := .normal) (rl := rl96) (vp := []) (fs := fs96) (bs := bs96)
    (Base.none _) (Nat.zero_le _) rfl (by kernel_rfl) (ipCons (ipN (.i64, x) rfl rfl) ipNil) vpNil (glNone rfl rfl) (by as_aux_lemma => kernel_rfl) (St.same (VRows.same _ _) s) hQ
theorem go96 {x : Int} (x1 : 1 ≤ x) (x2 : x < 10) {Q : Exit → Act → World → Prop} {j : Nat} (s : L96 x w0 a w) (hQ : ∀ a' w', L102 (x - 1) w0 a' w' → Code.rounds Tryz.prog laL Q j a' w') : Code.rounds Tryz.prog laL Q (j + 6) a w :=
  stepsTo_sound (T := (RG x1 x2).tab) (T' := PL (x - 1)) (K := K_top0) (m := 5000) mixed (@K_top0_ok ((RG x1 x2).tab)) (C := ⟨0, 22685, ofPairs rl102, [(.oi 2, 0)]⟩) (ex := .normal) (rl := rl102) (vp := []) (fs := fs102) (bs := bs102)
    (Base.none _) (Nat.zero_le _) rfl (by kernel_rfl) (ipCons (ipN (.i64, x - 1) rfl rfl) ipNil) vpNil (glNone rfl rfl) (by as_aux_lemma => kernel_rfl) (St.same (VRows.same _ _) s) hQ
theorem go102 {x : Int} (x1 : 1 ≤ x) (x2 : x < 10) {Q : Exit → Act → World → Prop} {j : Nat} (s : L102 x w0 a w) (hQ : ∀ a' w', L108 (x) w0 a' w' → Code.rounds Tryz.prog laL Q j a' w') : Code.rounds Tryz.prog laL Q (j + 6) a w :=
  stepsTo_sound (T := (RG x1 x2).tab) (T' := PL (x)) (K := K_top0) (m := 5000) mixed (@K_top0_ok ((RG x1 x2).tab)) (C := ⟨0, 23098, ofPairs rl108, [(.oi 0, 0)]⟩) (ex := .normal) (rl := rl108) (vp := []) (fs := fs108) (bs := bs108)
    (Base.none _) (Nat.zero_le _) rfl (by kernel_rfl) (ipCons (ipN (.i64, x) rfl rfl) ipNil) vpNil (glNone rfl rfl) (by as_aux_lemma => kernel_rfl) (St.same (VRows.same _ _) s) hQ
end
end Go.Proofs.YtedimikdpclpnaaGreatDoor.ma
