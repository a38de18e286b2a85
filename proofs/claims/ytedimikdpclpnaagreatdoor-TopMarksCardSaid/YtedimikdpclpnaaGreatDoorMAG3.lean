/-
  Rounds of the law TopMarks.
-/
import Derived.Test.YtedimikdpclpnaaGreatDoorMAS
set_option linter.unusedSectionVars false
set_option linter.unusedVariables false
set_option maxRecDepth 1000000
set_option maxHeartbeats 0
namespace Go.Proofs.YtedimikdpclpnaaGreatDoor.ma
open Go.X Go.RowKit
section
variable {w0 : World} {a : Act} {w : World}
theorem go108 {x : Int} (x1 : 1 ≤ x) (x2 : x < 10) {Q : Exit → Act → World → Prop} {j : Nat} (s : L108 x w0 a w) (hQ : ∀ a' w', L114 (x - 1) w0 a' w' → Code.rounds Tryz.prog laL Q j a' w') : Code.rounds Tryz.prog laL Q (j + 6) a w :=
  stepsTo_sound (T := (RG x1 x2).tab) (T' := PL (x - 1)) (K := K_top0) (m := 5000) mixed (@K_top0_ok ((RG x1 x2).tab)) (C := ⟨0, 23368, ofPairs rl114, [(.oi 2, 0)]⟩) (ex := .normal) (rl := rl114) (vp := []) (fs := fs114) (bs := bs114)
    (Base.none _) (Nat.zero_le _) rfl (by kernel_rfl) (ipCons (ipN (.i64, x - 1) rfl rfl) ipNil) vpNil (glNone rfl rfl) (by as_aux_lemma => kernel_rfl) (St.same (VRows.same _ _) s) hQ
theorem end6 {x : Int} (hx : x = 0) (s : L6 x w0 a w) : Code.rounds Tryz.prog laL (QL 10 w0) (0 + 4) a w := by
  refine stepsTo_sound (T := (RE hx).tab) (T' := TF 10) (K := K_top0) (m := 5000) mixed (@K_top0_ok (RE hx).tab) (C := ⟨0, 30000, ofPairs rlE, [(.oi 0, 0), (.int .i64 10, 1)]⟩) (ex := .exit 0) (rl := rlE) (vp := []) (fs := fsE) (bs := bsE)
    (Base.none _) (Nat.zero_le _) rfl (by kernel_rfl) (ipCons (ipN (.i64, 0) (by show (IntKind.i64, x) = _; rw [hx]) rfl) (ipCons (ipK rfl) ipNil)) vpNil (glNone rfl rfl) (by as_aux_lemma => kernel_rfl) (St.same (VRows.same _ _) s) (fun a' w' q => ?_)
  exact ⟨rfl, q⟩
theorem end18 {x : Int} (hx : x = 0) (s : L18 x w0 a w) : Code.rounds Tryz.prog laL (QL 22 w0) (0 + 4) a w := by
  refine stepsTo_sound (T := (RE hx).tab) (T' := TF 22) (K := K_top0) (m := 5000) mixed (@K_top0_ok (RE hx).tab) (C := ⟨0, 30000, ofPairs rlE, [(.oi 0, 0), (.int .i64 22, 1)]⟩) (ex := .exit 0) (rl := rlE) (vp := []) (fs := fsE) (bs := bsE)
    (Base.none _) (Nat.zero_le _) rfl (by kernel_rfl) (ipCons (ipN (.i64, 0) (by show (IntKind.i64, x) = _; rw [hx]) rfl) (ipCons (ipK rfl) ipNil)) vpNil (glNone rfl rfl) (by as_aux_lemma => kernel_rfl) (St.same (VRows.same _ _) s) (fun a' w' q => ?_)
  exact ⟨rfl, q⟩
theorem end30 {x : Int} (hx : x = 0) (s : L30 x w0 a w) : Code.rounds Tryz.prog laL (QL 34 w0) (0 + 4) a w := by
  refine stepsTo_sound (T := (RE hx).tab) (T' := TF 34) (K := K_top0) (m := 5000) mixed (@K_top0_ok (RE hx).tab) (C := ⟨0, 30000, ofPairs rlE, [(.oi 0, 0), (.int .i64 34, 1)]⟩) (ex := .exit 0) (rl := rlE) (vp := []) (fs := fsE) (bs := bsE)
    (Base.none _) (Nat.zero_le _) rfl (by kernel_rfl) (ipCons (ipN (.i64, 0) (by show (IntKind.i64, x) = _; rw [hx]) rfl) (ipCons (ipK rfl) ipNil)) vpNil (glNone rfl rfl) (by as_aux_lemma => kernel_rfl) (St.same (VRows.same _ _) s) (fun a' w' q => ?_)
  exact ⟨rfl, q⟩
theorem end42 {x : Int} (hx : x = 0) (s : L42 x w0 a w) : Code.rounds Tryz.prog laL (QL 46 w0) (0 + 4) a w := by
  refine stepsTo_sound (T := (RE hx).tab) (T' := TF 46) (K := K_top0) (m := 5000) mixed (@K_top0_ok (RE hx).tab) (C := ⟨0, 30000, ofPairs rlE, [(.oi 0, 0), (.int .i64 46, 1)]⟩) (ex := .exit 0) (rl := rlE) (vp := []) (fs := fsE) (bs := bsE)
    (Base.none _) (Nat.zero_le _) rfl (by kernel_rfl) (ipCons (ipN (.i64, 0) (by show (IntKind.i64, x) = _; rw [hx]) rfl) (ipCons (ipK rfl) ipNil)) vpNil (glNone rfl rfl) (by as_aux_lemma => kernel_rfl) (St.same (VRows.same _ _) s) (fun a' w' q => ?_)
  exact ⟨rfl, q⟩
theorem end54 {x : Int} (hx : x = 0) (s : L54 x w0 a w) : Code.rounds Tryz.prog laL (QL 58 w0) (0 + 4) a w := by
  refine stepsTo_sound (T := (RE hx).tab) (T' := TF 58) (K := K_top0) (m := 5000) mixed (@K_top0_ok (RE hx).tab) (C := ⟨0, 30000, ofPairs rlE, [(.oi 0, 0), (.int .i64 58, 1)]⟩) (ex := .exit 0) (rl := rlE) (vp := []) (fs := fsE) (bs := bsE)
    (Base.none _) (Nat.zero_le _) rfl (by kernel_rfl) (ipCons (ipN (.i64, 0) (by show (IntKind.i64, x) = _; rw [hx]) rfl) (ipCons (ipK rfl) ipNil)) vpNil (glNone rfl rfl) (by as_aux_lemma => kernel_rfl) (St.same (VRows.same _ _) s) (fun a' w' q => ?_)
  exact ⟨rfl, q⟩
end
end Go.Proofs.YtedimikdpclpnaaGreatDoor.ma
