/-
  Rounds of the law TopMarks.
-/
import Derived.Test.YtedimikdpclpnaaGreatDoorMAS
set_option linter.unusedSectionVars false
set_option linter.unusedVariables false
set_option maxRecDepth 1000000
set_option maxHeartbeats 0
namespace Go.Proofs.YtedimikdpclpnaaGreatDoor.ma
open Go.X Go.RowKit
section
variable {w0 : World} {a : Act} {w : World}
theorem go0 {x : Int} {Q : Exit → Act → World → Prop} {j : Nat} (s : L0 x w0 a w) (hQ : ∀ a' w', L6 (x) w0 a' w' → Code.rounds Tryz.prog laL Q j a' w') : Code.rounds Tryz.prog laL Q (j + 6) a w :=
  stepsTo_sound (T := PL x) (T' := PL (x)) (K := K_top0) (m := 5000) mixed (@K_top0_ok (PL x)) (C := ⟨0, 17217, ofPairs rl6, [(.oi 0, 0)]⟩) (ex := .normal) (rl := rl6) (vp := []) (fs := fs6) (bs := bs6)
    (Base.none _) (Nat.zero_le _) rfl (by kernel_rfl) (ipCons (ipN (.i64, x) rfl rfl) ipNil) vpNil (glNone rfl rfl) (by as_aux_lemma => kernel_rfl) s hQ
theorem go6 {x : Int} (x1 : 1 ≤ x) (x2 : x < 10) {Q : Exit → Act → World → Prop} {j : Nat} (s : L6 x w0 a w) (hQ : ∀ a' w', L12 (x) w0 a' w' → Code.rounds Tryz.prog laL Q j a' w') : Code.rounds Tryz.prog laL Q (j + 6) a w :=
  stepsTo_sound (T := (RG x1 x2).tab) (T' := PL (x)) (K := K_top0) (m := 5000) mixed (@K_top0_ok ((RG x1 x2).tab)) (C := ⟨0, 17630, ofPairs rl12, [(.oi 0, 0)]⟩) (ex := .normal) (rl := rl12) (vp := []) (fs := fs12) (bs := bs12)
    (Base.none _) (Nat.zero_le _) rfl (by kernel_rfl) (ipCons (ipN (.i64, x) rfl rfl) ipNil) vpNil (glNone rfl rfl) (by as_aux_lemma => kernel_rfl) (St.same (VRows.same _ _) s) hQ
theorem go12 {x : Int} (x1 : 1 ≤ x) (x2 : x < 10) {Q : Exit → Act → World → Prop} {j : Nat} (s : L12 x w0 a w) (hQ : ∀ a' w', L18 (x - 1) w0 a' w' → Code.rounds Tryz.prog laL Q j a' w') : Code.rounds Tryz.prog laL Q (j + 6) a w :=
  stepsTo_sound (T := (RG x1 x2).tab) (T' := PL (x - 1)) (K := K_top0) (m := 5000) mixed (@K_top0_ok ((RG x1 x2).tab)) (C := ⟨0, 17904, ofPairs rl18, [(.oi 2, 0)]⟩) (ex := .normal) (rl := rl18) (vp := []) (fs := fs18) (bs := bs18)
    (Base.none _) (Nat.zero_le _) rfl (by kernel_rfl) (ipCons (ipN (.i64, x - 1) rfl rfl) ipNil) vpNil (glNone rfl rfl) (by as_aux_lemma => kernel_rfl) (St.same (VRows.same _ _) s) hQ
theorem go18 {x : Int} (x1 : 1 ≤ x) (x2 : x < 10) {Q : Exit → Act → World → Prop} {j : Nat} (s : L18 x w0 a w) (hQ : ∀ a' w', L24 (x) w0 a' w' → Code.rounds Tryz.prog laL Q j a' w') : Code.rounds Tryz.prog laL Q (j + 6) a w :=
  stepsTo_sound (T := (RG x1 x2).tab) (T' := PL (x)) (K := K_top0) (m := 5000) mixed (@K_top0_ok ((RG x1 x2).tab)) (C := ⟨0, 18317, ofPairs rl24, [(.oi 0, 0)]⟩) (ex := .normal) (rl := rl24) (vp := []) (fs := fs24) (bs := bs24)
    (Base.none _) (Nat.zero_le _) rfl (by kernel_rfl) (ipCons (ipN (.i64, x) rfl rfl) ipNil) vpNil (glNone rfl rfl) (by as_aux_lemma => kernel_rfl) (St.same (VRows.same _ _) s) hQ
theorem go24 {x : Int} (x1 : 1 ≤ x) (x2 : x < 10) {Q : Exit → Act → World → Prop} {j : Nat} (s : L24 x w0 a w) (hQ : ∀ a' w', L30 (x - 1) w0 a' w' → Code.rounds Tryz.prog laL Q j a' w') : Code.rounds Tryz.prog laL Q (j + 6) a w :=
  stepsTo_sound (T := (RG x1 x2).tab) (T' := PL (x - 1)) (K := K_top0) (m := 5000) mixed (@K_top0_ok ((RG x1 x2).tab)) (C := ⟨0, 18587, ofPairs rl30, [(.oi 2, 0)]⟩) (ex := .normal) (rl := rl30) (vp := []) (fs := fs30) (bs := bs30)
    (Base.none _) (Nat.zero_le _) rfl (by kernel_rfl) (ipCons (ipN (.i64, x - 1) rfl rfl) ipNil) vpNil (glNone rfl rfl) (by as_aux_lemma => kernel_rfl) (St.same (VRows.same _ _) s) hQ
theorem go30 {x : Int} (x1 : 1 ≤ x) (x2 : x < 10) {Q : Exit → Act → World → Prop} {j : Nat} (s : L30 x w0 a w) (hQ : ∀ a' w', L36 (x) w0 a' w' → Code.rounds Tryz.prog laL Q j a' w') : Code.rounds Tryz.prog laL Q (j + 6) a w :=
  stepsTo_sound (T := (RG x1 x2).tab) (T' := PL (x)) (K := K_top0) (m := 5000) mixed (@K_top0_ok ((RG x1 x2).tab)) (C := ⟨0, 19000, ofPairs rl36, [(.oi 0, 0)]⟩) (ex := .normal) (rl := rl36) (vp := []) (fs := fs36) (bs := bs36)
    (Base.none _) (Nat.zero_le _) rfl (by kernel_rfl) (ipCons (ipN (.i64, x) rfl rfl) ipNil) vpNil (glNone rfl rfl) (by as_aux_lemma => kernel_rfl) (St.same (VRows.same _ _) s) hQ
end
end Go.Proofs.YtedimikdpclpnaaGreatDoor.ma
