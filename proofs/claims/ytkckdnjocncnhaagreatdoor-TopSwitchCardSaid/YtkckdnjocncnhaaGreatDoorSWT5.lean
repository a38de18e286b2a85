/-
  Contracts of calls, by the kernel.
-/
import Derived.Test.YtkckdnjocncnhaaGreatDoorXN3
import Derived.Test.YtkckdnjocncnhaaGreatDoorProg
import Derived.KernelRfl
import Derived.Test.YtkckdnjocncnhaaGreatDoorSW0a
import Derived.Test.YtkckdnjocncnhaaGreatDoorSW1a
import Derived.Test.YtkckdnjocncnhaaGreatDoorSW1b
import Derived.Test.YtkckdnjocncnhaaGreatDoorSW2d
import Derived.Test.YtkckdnjocncnhaaGreatDoorSW4a
import Derived.Test.YtkckdnjocncnhaaGreatDoorSW5a
set_option linter.unusedSectionVars false
set_option linter.unusedVariables false
set_option maxRecDepth 1000000
set_option maxHeartbeats 0
namespace Go.Proofs.YtkckdnjocncnhaaGreatDoor.sw
open Go.X Go.RowKit
section
variable [Tab]
noncomputable def K_top5 : Hand := ((H_SW5a).or ((H_SW4a).or ((H_SW2d).or ((H_SW1b).or ((H_SW1a).or H_SW0a)))))
theorem K_top5_ok : HandOk Tryz.prog K_top5 := (HandOk.or H_SW5a_ok (HandOk.or H_SW4a_ok (HandOk.or H_SW2d_ok (HandOk.or H_SW1b_ok (HandOk.or H_SW1a_ok H_SW0a_ok)))))
end
section
abbrev iv5 (a r : Int) : Nat → IntKind × Int
  | 0 => (.i64, a)
  | 1 => (.i64, r)
  | 2 => (.i32, r)
  | _ => (.i64, 0)
theorem ib5 {a r : Int} (hr : a.tmod 100 = r) (h1 : 3 ≤ r) (h2 : r < 100) (h3 : r ≠ 7) : ∀ x_ ∈ ([(4, .oi 0, .int .i64 100, .oi 1), (14, .oi 1, .int .i64 0, .bool true), (12, .oi 1, .int .i64 2, .bool false), (9, .oi 1, .int .i64 (-5), .bool false), (9, .oi 1, .int .i64 7, .bool false), (11, .oi 1, .int .i64 0, .bool false), (13, .oi 1, .int .i64 2, .bool true), (9, .int .i64 (-5), .oi 1, .bool false), (9, .int .i64 7, .oi 1, .bool false)] : List BRow), IbOk (iv5 a r) x_ := by
  letI := Tab.empty
  exact (ibCons (ibRem (a := (a)) (b := (100)) (c := (r)) rfl rfl rfl (by omega) (by first | assumption | omega)) (ibCons (ibGe (a := (r)) (b := (0)) rfl rfl (decide_eq_true (by omega))) (ibCons (ibLe (a := (r)) (b := (2)) rfl rfl (decide_eq_false (by omega))) (ibCons (ibEq (a := (r)) (b := (-5)) rfl rfl (decide_eq_false (by omega))) (ibCons (ibEq (a := (r)) (b := (7)) rfl rfl (decide_eq_false (by omega))) (ibCons (ibLt (a := (r)) (b := (0)) rfl rfl (decide_eq_false (by omega))) (ibCons (ibGt (a := (r)) (b := (2)) rfl rfl (decide_eq_true (by omega))) (ibCons (ibEq (a := (-5)) (b := (r)) rfl rfl (decide_eq_false (by omega))) (ibCons (ibEq (a := (7)) (b := (r)) rfl rfl (decide_eq_false (by omega))) ibNil)))))))))
theorem ic5 {a r : Int} (hr : a.tmod 100 = r) (h1 : 3 ≤ r) (h2 : r < 100) (h3 : r ≠ 7) : ∀ x_ ∈ ([(.i32, .oi 1, .oi 2), (.i64, .oi 2, .oi 1)] : List (IntKind × AV × AV)), IcOk' (iv5 a r) x_ := (icCons (ic32 (n := (r)) rfl rfl (by omega) (by omega)) (icCons (ic64 (n := (r)) rfl rfl (by omega) (by omega)) icNil))
abbrev R5 {a r : Int} (hr : a.tmod 100 = r) (h1 : 3 ≤ r) (h2 : r < 100) (h3 : r ≠ 7) : VRows (iv5 a r) noV noK where
  vvp := noVp
  ib := [(4, .oi 0, .int .i64 100, .oi 1), (14, .oi 1, .int .i64 0, .bool true), (12, .oi 1, .int .i64 2, .bool false), (9, .oi 1, .int .i64 (-5), .bool false), (9, .oi 1, .int .i64 7, .bool false), (11, .oi 1, .int .i64 0, .bool false), (13, .oi 1, .int .i64 2, .bool true), (9, .int .i64 (-5), .oi 1, .bool false), (9, .int .i64 7, .oi 1, .bool false)]
  ibok := ib5 hr h1 h2 h3
  ic := [(.i32, .oi 1, .oi 2), (.i64, .oi 2, .oi 1)]
  icok := ic5 hr h1 h2 h3
theorem run5 {a r : Int} (hr : a.tmod 100 = r) (h1 : 3 ≤ r) (h2 : r < 100) (h3 : r ≠ 7) : okTrue (@call (R5 hr h1 h2 h3).tab Tryz.prog K_top5 5000 4 [(.oi 0)] H.empty) = true := (by as_aux_lemma => kernel_rfl)
theorem yes5 {a r : Int} (hr : a.tmod 100 = r) (h1 : 3 ≤ r) (h2 : r < 100) (h3 : r ≠ 7) (w : World) : Calls Tryz.prog 4 #[.int .i64 a] w fun e w' => e = .returned (.bool true) ∧ Below w.heap.size w w' := by
  letI : Tab := (R5 hr h1 h2 h3).tab
  obtain ⟨q_, hq_⟩ := CallOk.of_okTrue (P := Tryz.prog) mixed K_top5_ok (run5 hr h1 h2 h3)
  exact CallOk.yes hq_ (vrels_cons (by simp only [vrel]; rfl) (by simp [vrels])) w ⟨fun g o a h => (by cases h), fun i m a h => (by cases h)⟩
end
end Go.Proofs.YtkckdnjocncnhaaGreatDoor.sw
