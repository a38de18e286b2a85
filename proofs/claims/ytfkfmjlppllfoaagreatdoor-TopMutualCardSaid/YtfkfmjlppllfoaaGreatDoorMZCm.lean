/-
  The law TopMutual at numbers that go to m.
-/
import Derived.Test.YtfkfmjlppllfoaaGreatDoorMNN
import Derived.Test.YtfkfmjlppllfoaaGreatDoorMQT0
import Derived.Test.YtfkfmjlppllfoaaGreatDoorXN3
set_option linter.unusedSectionVars false
set_option linter.unusedVariables false
set_option maxRecDepth 1000000
set_option maxHeartbeats 0
namespace Go.Proofs.YtfkfmjlppllfoaaGreatDoor.mz
open Go.X Go.RowKit Go.Proofs.YtfkfmjlppllfoaaGreatDoor.mq
theorem mixedm : Tryz.prog.follows .mixedOrders = true := by kernel_rfl
noncomputable def fullLm : Code := (Tryz.f5.body).getD .skip
theorem bodyLm : Tryz.f5.body = some fullLm := by kernel_rfl
abbrev ivCm (m : Int) : Nat → IntKind × Int
  | 0 => (.i64, m)
  | _ => (.i64, 0)
theorem ibCm {m : Int} (hx : m.tmod 150 = (-1)) : ∀ x_ ∈ ([(4, .oi 0, .int .i64 150, .int .i64 (-1))] : List BRow), IbOk (ivCm m) x_ := by
  letI := Tab.empty
  exact (ibCons (ibRem (a := m) (b := 150) (c := (-1)) rfl rfl rfl (by decide) hx) ibNil)
abbrev RCm {m : Int} (hx : m.tmod 150 = (-1)) : VRows (ivCm m) noV noK where
  vvp := noVp
  ib := [(4, .oi 0, .int .i64 150, .int .i64 (-1))]
  ibok := ibCm hx
theorem runCm {m : Int} (hx : m.tmod 150 = (-1)) : runTrue ((RCm hx).tab) Tryz.prog K_top0 5000 Tryz.f5 fullLm (T.ofList 0 .leaf [.oi 0]) ⟨0, .leaf⟩ = true := (by as_aux_lemma => kernel_rfl)
theorem yesCm {m : Int} (hx : m.tmod 150 = (-1)) (w : World) : Calls Tryz.prog 5 #[.int .i64 m] w fun e w' => e = .returned (.bool true) ∧ Below w.heap.size w w' := by
  refine yes_calls Tryz.func5 bodyLm w ?_
  letI : Tab := ((RCm hx).tab)
  have s0 := @St.start ((RCm hx).tab) [.oi 0] #[.int .i64 m] (Tryz.f5.ntmps) w ⟨fun g o a h => (by cases h), fun i m a h => (by cases h)⟩ (@vrels_cons ((RCm hx).tab) _ _ _ _ _ (by simp only [vrel]; rfl) (by simp [vrels])) (show 1 ≤ Tryz.f5.ntmps by decide +kernel) (show 1 < limit by decide)
  exact runTrue_sound (T := ((RCm hx).tab)) mixedm K_top0_ok (runCm hx) s0
end Go.Proofs.YtfkfmjlppllfoaaGreatDoor.mz
