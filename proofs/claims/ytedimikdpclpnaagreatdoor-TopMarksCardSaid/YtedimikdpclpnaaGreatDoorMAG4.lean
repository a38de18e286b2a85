/-
  Rounds of the law TopMarks.
-/
import Derived.Test.YtedimikdpclpnaaGreatDoorMAS
set_option linter.unusedSectionVars false
set_option linter.unusedVariables false
set_option maxRecDepth 1000000
set_option maxHeartbeats 0
namespace Go.Proofs.YtedimikdpclpnaaGreatDoor.ma
open Go.X Go.RowKit
section
variable {w0 : World} {a : Act} {w : World}
theorem end66 {x : Int} (hx : x = 0) (s : L66 x w0 a w) : Code.rounds Tryz.prog laL (QL 70 w0) (0 + 4) a w := by
  refine stepsTo_sound (T := (RE hx).tab) (T' := TF 70) (K := K_top0) (m := 5000) mixed (@K_top0_ok (RE hx).tab) (C := ⟨0, 30000, ofPairs rlE, [(.oi 0, 0), (.int .i64 70, 1)]⟩) (ex := .exit 0) (rl := rlE) (vp := []) (fs := fsE) (bs := bsE)
    (Base.none _) (Nat.zero_le _) rfl (by kernel_rfl) (ipCons (ipN (.i64, 0) (by show (IntKind.i64, x) = _; rw [hx]) rfl) (ipCons (ipK rfl) ipNil)) vpNil (glNone rfl rfl) (by as_aux_lemma => kernel_rfl) (St.same (VRows.same _ _) s) (fun a' w' q => ?_)
  exact ⟨rfl, q⟩
theorem end78 {x : Int} (hx : x = 0) (s : L78 x w0 a w) : Code.rounds Tryz.prog laL (QL 82 w0) (0 + 4) a w := by
  refine stepsTo_sound (T := (RE hx).tab) (T' := TF 82) (K := K_top0) (m := 5000) mixed (@K_top0_ok (RE hx).tab) (C := ⟨0, 30000, ofPairs rlE, [(.oi 0, 0), (.int .i64 82, 1)]⟩) (ex := .exit 0) (rl := rlE) (vp := []) (fs := fsE) (bs := bsE)
    (Base.none _) (Nat.zero_le _) rfl (by kernel_rfl) (ipCons (ipN (.i64, 0) (by show (IntKind.i64, x) = _; rw [hx]) rfl) (ipCons (ipK rfl) ipNil)) vpNil (glNone rfl rfl) (by as_aux_lemma => kernel_rfl) (St.same (VRows.same _ _) s) (fun a' w' q => ?_)
  exact ⟨rfl, q⟩
theorem end90 {x : Int} (hx : x = 0) (s : L90 x w0 a w) : Code.rounds Tryz.prog laL (QL 94 w0) (0 + 4) a w := by
  refine stepsTo_sound (T := (RE hx).tab) (T' := TF 94) (K := K_top0) (m := 5000) mixed (@K_top0_ok (RE hx).tab) (C := ⟨0, 30000, ofPairs rlE, [(.oi 0, 0), (.int .i64 94, 1)]⟩) (ex := .exit 0) (rl := rlE) (vp := []) (fs := fsE) (bs := bsE)
    (Base.none _) (Nat.zero_le _) rfl (by kernel_rfl) (ipCons (ipN (.i64, 0) (by show (IntKind.i64, x) = _; rw [hx]) rfl) (ipCons (ipK rfl) ipNil)) vpNil (glNone rfl rfl) (by as_aux_lemma => kernel_rfl) (St.same (VRows.same _ _) s) (fun a' w' q => ?_)
  exact ⟨rfl, q⟩
theorem end102 {x : Int} (hx : x = 0) (s : L102 x w0 a w) : Code.rounds Tryz.prog laL (QL 106 w0) (0 + 4) a w := by
  refine stepsTo_sound (T := (RE hx).tab) (T' := TF 106) (K := K_top0) (m := 5000) mixed (@K_top0_ok (RE hx).tab) (C := ⟨0, 30000, ofPairs rlE, [(.oi 0, 0), (.int .i64 106, 1)]⟩) (ex := .exit 0) (rl := rlE) (vp := []) (fs := fsE) (bs := bsE)
    (Base.none _) (Nat.zero_le _) rfl (by kernel_rfl) (ipCons (ipN (.i64, 0) (by show (IntKind.i64, x) = _; rw [hx]) rfl) (ipCons (ipK rfl) ipNil)) vpNil (glNone rfl rfl) (by as_aux_lemma => kernel_rfl) (St.same (VRows.same _ _) s) (fun a' w' q => ?_)
  exact ⟨rfl, q⟩
theorem end114 {x : Int} (hx : x = 0) (s : L114 x w0 a w) : Code.rounds Tryz.prog laL (QL 118 w0) (0 + 4) a w := by
  refine stepsTo_sound (T := (RE hx).tab) (T' := TF 118) (K := K_top0) (m := 5000) mixed (@K_top0_ok (RE hx).tab) (C := ⟨0, 30000, ofPairs rlE, [(.oi 0, 0), (.int .i64 118, 1)]⟩) (ex := .exit 0) (rl := rlE) (vp := []) (fs := fsE) (bs := bsE)
    (Base.none _) (Nat.zero_le _) rfl (by kernel_rfl) (ipCons (ipN (.i64, 0) (by show (IntKind.i64, x) = _; rw [hx]) rfl) (ipCons (ipK rfl) ipNil)) vpNil (glNone rfl rfl) (by as_aux_lemma => kernel_rfl) (St.same (VRows.same _ _) s) (fun a' w' q => ?_)
  exact ⟨rfl, q⟩
end
end Go.Proofs.YtedimikdpclpnaaGreatDoor.ma
