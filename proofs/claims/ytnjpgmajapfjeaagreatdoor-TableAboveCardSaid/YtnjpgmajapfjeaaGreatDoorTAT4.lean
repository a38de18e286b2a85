/-
  Contracts of calls, by the kernel.
-/
import Derived.Test.YtnjpgmajapfjeaaGreatDoorXN3
import Derived.Test.YtnjpgmajapfjeaaGreatDoorProg
import Derived.KernelRfl
import Derived.Test.YtnjpgmajapfjeaaGreatDoorTA3a
import Derived.Test.YtnjpgmajapfjeaaGreatDoorTA0a
set_option linter.unusedSectionVars false
set_option linter.unusedVariables false
set_option maxRecDepth 1000000
set_option maxHeartbeats 0
namespace Go.Proofs.YtnjpgmajapfjeaaGreatDoor.ta
open Go.X Go.RowKit
section
variable [Tab]
noncomputable def K_top4 : Hand := H_TA3a
theorem K_top4_ok : HandOk Tryz.prog K_top4 := H_TA3a_ok
end
section
abbrev iv4 (a b : Int) : Nat → IntKind × Int
  | 0 => (.i64, a)
  | 1 => (.i64, b)
  | _ => (.i64, 0)
theorem ib4 {a b : Int} (h1 : 1 ≤ a) (h2 : a ≤ 20) (h3 : 0 ≤ b) (h : a < b) : ∀ x_ ∈ ([(11, .oi 0, .int .i64 1, .bool false), (13, .oi 0, .int .i64 20, .bool false), (11, .oi 1, .int .i64 0, .bool false), (13, .oi 1, .oi 0, .bool true)] : List BRow), IbOk (iv4 a b) x_ := by
  letI := Tab.empty
  exact (ibCons (ibLt (a := (a)) (b := (1)) rfl rfl (decide_eq_false (by omega))) (ibCons (ibGt (a := (a)) (b := (20)) rfl rfl (decide_eq_false (by omega))) (ibCons (ibLt (a := (b)) (b := (0)) rfl rfl (decide_eq_false (by omega))) (ibCons (ibGt (a := (b)) (b := (a)) rfl rfl (decide_eq_true (by omega))) ibNil))))
theorem ic4 {a b : Int} (h1 : 1 ≤ a) (h2 : a ≤ 20) (h3 : 0 ≤ b) (h : a < b) : ∀ x_ ∈ ([] : List (IntKind × AV × AV)), IcOk' (iv4 a b) x_ := icNil
abbrev R4 {a b : Int} (h1 : 1 ≤ a) (h2 : a ≤ 20) (h3 : 0 ≤ b) (h : a < b) : VRows (iv4 a b) noV noK where
  vvp := noVp
  ib := [(11, .oi 0, .int .i64 1, .bool false), (13, .oi 0, .int .i64 20, .bool false), (11, .oi 1, .int .i64 0, .bool false), (13, .oi 1, .oi 0, .bool true)]
  ibok := ib4 h1 h2 h3 h
  ic := []
  icok := ic4 h1 h2 h3 h
theorem run4 {a b : Int} (h1 : 1 ≤ a) (h2 : a ≤ 20) (h3 : 0 ≤ b) (h : a < b) : okTrue (@call (R4 h1 h2 h3 h).tab Tryz.prog K_top4 5000 4 [(.oi 0), (.oi 1)] H.empty) = true := (by as_aux_lemma => kernel_rfl)
theorem yes4 {a b : Int} (h1 : 1 ≤ a) (h2 : a ≤ 20) (h3 : 0 ≤ b) (h : a < b) (w : World) : Calls Tryz.prog 4 #[.int .i64 a, .int .i64 b] w fun e w' => e = .returned (.bool true) ∧ Below w.heap.size w w' := by
  letI : Tab := (R4 h1 h2 h3 h).tab
  obtain ⟨q_, hq_⟩ := CallOk.of_okTrue (P := Tryz.prog) mixed K_top4_ok (run4 h1 h2 h3 h)
  exact CallOk.yes hq_ (vrels_cons (by simp only [vrel]; rfl) (vrels_cons (by simp only [vrel]; rfl) (by simp [vrels]))) w ⟨fun g o a h => (by cases h), fun i m a h => (by cases h)⟩
end
end Go.Proofs.YtnjpgmajapfjeaaGreatDoor.ta
