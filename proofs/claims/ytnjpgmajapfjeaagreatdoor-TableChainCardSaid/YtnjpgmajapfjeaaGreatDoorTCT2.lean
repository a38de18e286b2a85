/-
  Contracts of calls, by the kernel.
-/
import Derived.Test.YtnjpgmajapfjeaaGreatDoorXN3
import Derived.Test.YtnjpgmajapfjeaaGreatDoorProg
import Derived.KernelRfl
import Derived.Test.YtnjpgmajapfjeaaGreatDoorTC2a
import Derived.Test.YtnjpgmajapfjeaaGreatDoorTC0a
set_option linter.unusedSectionVars false
set_option linter.unusedVariables false
set_option maxRecDepth 1000000
set_option maxHeartbeats 0
namespace Go.Proofs.YtnjpgmajapfjeaaGreatDoor.tc
open Go.X Go.RowKit
section
variable [Tab]
noncomputable def K_top2 : Hand := H_TC2a
theorem K_top2_ok : HandOk Tryz.prog K_top2 := H_TC2a_ok
end
section
abbrev iv2 (a : Int) : Nat → IntKind × Int
  | 0 => (.i64, a)
  | _ => (.i64, 0)
theorem ib2 {a : Int} (h : a < 1) : ∀ x_ ∈ ([(11, .oi 0, .int .i64 1, .bool true)] : List BRow), IbOk (iv2 a) x_ := by
  letI := Tab.empty
  exact (ibCons (ibLt (a := (a)) (b := (1)) rfl rfl (decide_eq_true (by omega))) ibNil)
theorem ic2 {a : Int} (h : a < 1) : ∀ x_ ∈ ([] : List (IntKind × AV × AV)), IcOk' (iv2 a) x_ := icNil
abbrev R2 {a : Int} (h : a < 1) : VRows (iv2 a) noV noK where
  vvp := noVp
  ib := [(11, .oi 0, .int .i64 1, .bool true)]
  ibok := ib2 h
  ic := []
  icok := ic2 h
theorem run2 {a : Int} (h : a < 1) : okTrue (@call (R2 h).tab Tryz.prog K_top2 5000 3 [(.oi 0), (.bool false)] H.empty) = true := (by as_aux_lemma => kernel_rfl)
theorem yes2 {a : Int} (h : a < 1) (w : World) : Calls Tryz.prog 3 #[.int .i64 a, .bool false] w fun e w' => e = .returned (.bool true) ∧ Below w.heap.size w w' := by
  letI : Tab := (R2 h).tab
  obtain ⟨q_, hq_⟩ := CallOk.of_okTrue (P := Tryz.prog) mixed K_top2_ok (run2 h)
  exact CallOk.yes hq_ (vrels_cons (by simp only [vrel]; rfl) (vrels_cons (by simp only [vrel]) (by simp [vrels]))) w ⟨fun g o a h => (by cases h), fun i m a h => (by cases h)⟩
end
end Go.Proofs.YtnjpgmajapfjeaaGreatDoor.tc
