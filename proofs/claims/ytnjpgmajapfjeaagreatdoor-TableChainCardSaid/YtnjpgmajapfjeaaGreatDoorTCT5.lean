/-
  Contracts of calls, by the kernel.
-/
import Derived.Test.YtnjpgmajapfjeaaGreatDoorXN3
import Derived.Test.YtnjpgmajapfjeaaGreatDoorProg
import Derived.KernelRfl
import Derived.Test.YtnjpgmajapfjeaaGreatDoorTC2a
import Derived.Test.YtnjpgmajapfjeaaGreatDoorTC0a
set_option linter.unusedSectionVars false
set_option linter.unusedVariables false
set_option maxRecDepth 1000000
set_option maxHeartbeats 0
namespace Go.Proofs.YtnjpgmajapfjeaaGreatDoor.tc
open Go.X Go.RowKit
section
variable [Tab]
noncomputable def K_top5 : Hand := H_TC2a
theorem K_top5_ok : HandOk Tryz.prog K_top5 := H_TC2a_ok
end
section
abbrev iv5 (a : Int) : Nat → IntKind × Int
  | 0 => (.i64, a)
  | _ => (.i64, 0)
theorem ib5 {a : Int} (h : 60 < a) : ∀ x_ ∈ ([(11, .oi 0, .int .i64 1, .bool false), (13, .oi 0, .int .i64 60, .bool true)] : List BRow), IbOk (iv5 a) x_ := by
  letI := Tab.empty
  exact (ibCons (ibLt (a := (a)) (b := (1)) rfl rfl (decide_eq_false (by omega))) (ibCons (ibGt (a := (a)) (b := (60)) rfl rfl (decide_eq_true (by omega))) ibNil))
theorem ic5 {a : Int} (h : 60 < a) : ∀ x_ ∈ ([] : List (IntKind × AV × AV)), IcOk' (iv5 a) x_ := icNil
abbrev R5 {a : Int} (h : 60 < a) : VRows (iv5 a) noV noK where
  vvp := noVp
  ib := [(11, .oi 0, .int .i64 1, .bool false), (13, .oi 0, .int .i64 60, .bool true)]
  ibok := ib5 h
  ic := []
  icok := ic5 h
theorem run5 {a : Int} (h : 60 < a) : okTrue (@call (R5 h).tab Tryz.prog K_top5 5000 3 [(.oi 0), (.bool true)] H.empty) = true := (by as_aux_lemma => kernel_rfl)
theorem yes5 {a : Int} (h : 60 < a) (w : World) : Calls Tryz.prog 3 #[.int .i64 a, .bool true] w fun e w' => e = .returned (.bool true) ∧ Below w.heap.size w w' := by
  letI : Tab := (R5 h).tab
  obtain ⟨q_, hq_⟩ := CallOk.of_okTrue (P := Tryz.prog) mixed K_top5_ok (run5 h)
  exact CallOk.yes hq_ (vrels_cons (by simp only [vrel]; rfl) (vrels_cons (by simp only [vrel]) (by simp [vrels]))) w ⟨fun g o a h => (by cases h), fun i m a h => (by cases h)⟩
end
end Go.Proofs.YtnjpgmajapfjeaaGreatDoor.tc
