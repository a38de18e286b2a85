/-
  Contracts of calls, by the kernel.
-/
import Derived.Test.YtnjpgmajapfjeaaGreatDoorXN3
import Derived.Test.YtnjpgmajapfjeaaGreatDoorProg
import Derived.KernelRfl
import Derived.Test.YtnjpgmajapfjeaaGreatDoorTA3a
import Derived.Test.YtnjpgmajapfjeaaGreatDoorTA0a
set_option linter.unusedSectionVars false
set_option linter.unusedVariables false
set_option maxRecDepth 1000000
set_option maxHeartbeats 0
namespace Go.Proofs.YtnjpgmajapfjeaaGreatDoor.ta
open Go.X Go.RowKit
section
variable [Tab]
noncomputable def K_top1 : Hand := H_TA3a
theorem K_top1_ok : HandOk Tryz.prog K_top1 := H_TA3a_ok
end
section
abbrev iv1 (a b : Int) : Nat → IntKind × Int
  | 0 => (.i64, a)
  | 1 => (.i64, b)
  | _ => (.i64, 0)
theorem ib1 {a b : Int} (h : a < 1) (h_ : b = b) : ∀ x_ ∈ ([(11, .oi 0, .int .i64 1, .bool true)] : List BRow), IbOk (iv1 a b) x_ := by
  letI := Tab.empty
  exact (ibCons (ibLt (a := (a)) (b := (1)) rfl rfl (decide_eq_true (by omega))) ibNil)
theorem ic1 {a b : Int} (h : a < 1) (h_ : b = b) : ∀ x_ ∈ ([] : List (IntKind × AV × AV)), IcOk' (iv1 a b) x_ := icNil
abbrev R1 {a b : Int} (h : a < 1) (h_ : b = b) : VRows (iv1 a b) noV noK where
  vvp := noVp
  ib := [(11, .oi 0, .int .i64 1, .bool true)]
  ibok := ib1 h h_
  ic := []
  icok := ic1 h h_
theorem run1 {a b : Int} (h : a < 1) (h_ : b = b) : okTrue (@call (R1 h h_).tab Tryz.prog K_top1 5000 4 [(.oi 0), (.oi 1)] H.empty) = true := (by as_aux_lemma => kernel_rfl)
theorem yes1 {a b : Int} (h : a < 1) (h_ : b = b) (w : World) : Calls Tryz.prog 4 #[.int .i64 a, .int .i64 b] w fun e w' => e = .returned (.bool true) ∧ Below w.heap.size w w' := by
  letI : Tab := (R1 h h_).tab
  obtain ⟨q_, hq_⟩ := CallOk.of_okTrue (P := Tryz.prog) mixed K_top1_ok (run1 h h_)
  exact CallOk.yes hq_ (vrels_cons (by simp only [vrel]; rfl) (vrels_cons (by simp only [vrel]; rfl) (by simp [vrels]))) w ⟨fun g o a h => (by cases h), fun i m a h => (by cases h)⟩
end
end Go.Proofs.YtnjpgmajapfjeaaGreatDoor.ta
