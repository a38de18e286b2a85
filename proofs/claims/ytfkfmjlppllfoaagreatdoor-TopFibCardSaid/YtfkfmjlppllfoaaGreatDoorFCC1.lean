/-
  The law TopFib at numbers that go to 1.
-/
import Derived.Test.YtfkfmjlppllfoaaGreatDoorFQT0
import Derived.Test.YtfkfmjlppllfoaaGreatDoorXN3
set_option linter.unusedSectionVars false
set_option linter.unusedVariables false
set_option maxRecDepth 1000000
set_option maxHeartbeats 0
namespace Go.Proofs.YtfkfmjlppllfoaaGreatDoor.fc
open Go.X Go.RowKit Go.Proofs.YtfkfmjlppllfoaaGreatDoor.fq
theorem mixed1 : Tryz.prog.follows .mixedOrders = true := by kernel_rfl
noncomputable def fullL1 : Code := (Tryz.f8.body).getD .skip
theorem bodyL1 : Tryz.f8.body = some fullL1 := by kernel_rfl
abbrev ivC1 (m : Int) : Nat → IntKind × Int
  | 0 => (.i64, m)
  | _ => (.i64, 0)
theorem ibC1 {m : Int} (hx : m.tmod 15 = 1) : ∀ x_ ∈ ([(4, .oi 0, .int .i64 15, .int .i64 1)] : List BRow), IbOk (ivC1 m) x_ := by
  letI := Tab.empty
  exact (ibCons (ibRem (a := m) (b := 15) (c := 1) rfl rfl rfl (by decide) hx) ibNil)
abbrev RC1 {m : Int} (hx : m.tmod 15 = 1) : VRows (ivC1 m) noV noK where
  vvp := noVp
  ib := [(4, .oi 0, .int .i64 15, .int .i64 1)]
  ibok := ibC1 hx
theorem runC1 {m : Int} (hx : m.tmod 15 = 1) : runTrue ((RC1 hx).tab) Tryz.prog K_top0 5000 Tryz.f8 fullL1 (T.ofList 0 .leaf [.oi 0]) ⟨0, .leaf⟩ = true := (by as_aux_lemma => kernel_rfl)
theorem yesC1 {m : Int} (hx : m.tmod 15 = 1) (w : World) : Calls Tryz.prog 8 #[.int .i64 m] w fun e w' => e = .returned (.bool true) ∧ Below w.heap.size w w' := by
  refine yes_calls Tryz.func8 bodyL1 w ?_
  letI : Tab := ((RC1 hx).tab)
  have s0 := @St.start ((RC1 hx).tab) [.oi 0] #[.int .i64 m] (Tryz.f8.ntmps) w ⟨fun g o a h => (by cases h), fun i m a h => (by cases h)⟩ (@vrels_cons ((RC1 hx).tab) _ _ _ _ _ (by simp only [vrel]; rfl) (by simp [vrels])) (show 1 ≤ Tryz.f8.ntmps by decide +kernel) (show 1 < limit by decide)
  exact runTrue_sound (T := ((RC1 hx).tab)) mixed1 K_top0_ok (runC1 hx) s0
end Go.Proofs.YtfkfmjlppllfoaaGreatDoor.fc
