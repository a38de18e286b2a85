/-
  Contracts of calls, by the kernel.
-/
import Derived.Test.YtkckdnjocncnhaaGreatDoorXN3
import Derived.Test.YtkckdnjocncnhaaGreatDoorProg
import Derived.KernelRfl
import Derived.Test.YtkckdnjocncnhaaGreatDoorSW0a
import Derived.Test.YtkckdnjocncnhaaGreatDoorSW1b
import Derived.Test.YtkckdnjocncnhaaGreatDoorSW2a
import Derived.Test.YtkckdnjocncnhaaGreatDoorSW2d
import Derived.Test.YtkckdnjocncnhaaGreatDoorSW4a
import Derived.Test.YtkckdnjocncnhaaGreatDoorSW5a
set_option linter.unusedSectionVars false
set_option linter.unusedVariables false
set_option maxRecDepth 1000000
set_option maxHeartbeats 0
namespace Go.Proofs.YtkckdnjocncnhaaGreatDoor.sw
open Go.X Go.RowKit
section
variable [Tab]
noncomputable def K_top3 : Hand := ((H_SW5a).or ((H_SW4a).or ((H_SW2d).or ((H_SW2a).or ((H_SW1b).or H_SW0a)))))
theorem K_top3_ok : HandOk Tryz.prog K_top3 := (HandOk.or H_SW5a_ok (HandOk.or H_SW4a_ok (HandOk.or H_SW2d_ok (HandOk.or H_SW2a_ok (HandOk.or H_SW1b_ok H_SW0a_ok)))))
end
section
abbrev iv3 (a : Int) : Nat → IntKind × Int
  | 0 => (.i64, a)
  | _ => (.i64, 0)
theorem ib3 {a : Int} (hr : a.tmod 100 = -5) : ∀ x_ ∈ ([(4, .oi 0, .int .i64 100, .int .i64 (-5))] : List BRow), IbOk (iv3 a) x_ := by
  letI := Tab.empty
  exact (ibCons (ibRem (a := (a)) (b := (100)) (c := (-5)) rfl rfl rfl (by omega) (by first | assumption | omega)) ibNil)
theorem ic3 {a : Int} (hr : a.tmod 100 = -5) : ∀ x_ ∈ ([] : List (IntKind × AV × AV)), IcOk' (iv3 a) x_ := icNil
abbrev R3 {a : Int} (hr : a.tmod 100 = -5) : VRows (iv3 a) noV noK where
  vvp := noVp
  ib := [(4, .oi 0, .int .i64 100, .int .i64 (-5))]
  ibok := ib3 hr
  ic := []
  icok := ic3 hr
theorem run3 {a : Int} (hr : a.tmod 100 = -5) : okTrue (@call (R3 hr).tab Tryz.prog K_top3 5000 4 [(.oi 0)] H.empty) = true := (by as_aux_lemma => kernel_rfl)
theorem yes3 {a : Int} (hr : a.tmod 100 = -5) (w : World) : Calls Tryz.prog 4 #[.int .i64 a] w fun e w' => e = .returned (.bool true) ∧ Below w.heap.size w w' := by
  letI : Tab := (R3 hr).tab
  obtain ⟨q_, hq_⟩ := CallOk.of_okTrue (P := Tryz.prog) mixed K_top3_ok (run3 hr)
  exact CallOk.yes hq_ (vrels_cons (by simp only [vrel]; rfl) (by simp [vrels])) w ⟨fun g o a h => (by cases h), fun i m a h => (by cases h)⟩
end
end Go.Proofs.YtkckdnjocncnhaaGreatDoor.sw
