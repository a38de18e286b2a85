/-
  The law TopSpeaks at numbers that go to 0: the law.
-/
import Derived.Test.YtbgkinjicnnkiaaGreatDoorSCCc
set_option linter.unusedSectionVars false
set_option linter.unusedVariables false
set_option maxRecDepth 1000000
set_option maxHeartbeats 0
namespace Go.Proofs.YtbgkinjicnnkiaaGreatDoor.sc
open Go.X Go.RowKit Go.Proofs.YtbgkinjicnnkiaaGreatDoor.sq
noncomputable def fullL0 : Code := (Tryz.f5.body).getD .skip
theorem bodyL0 : Tryz.f5.body = some fullL0 := by kernel_rfl
abbrev ivC (m : Int) : Nat → IntKind × Int
  | 0 => (.i64, m)
  | _ => (.i64, 0)
theorem ibC {m : Int} (hx : m.tmod 40 = 0) : ∀ x_ ∈ ([(4, .oi 0, .int .i64 40, .int .i64 0)] : List BRow), IbOk (ivC m) x_ := by
  letI := Tab.empty
  exact (ibCons (ibRem (a := m) (b := 40) (c := 0) rfl rfl rfl (by decide) hx) ibNil)
abbrev RC {m : Int} (hx : m.tmod 40 = 0) : VRows (ivC m) noV noK where
  vvp := noVp
  ib := [(4, .oi 0, .int .i64 40, .int .i64 0)]
  ibok := ibC hx
theorem runC {m : Int} (hx : m.tmod 40 = 0) : runTrue ((RC hx).tab) Tryz.prog ((inHand CR0).or K_top0) 5000 Tryz.f5 fullL0 (T.ofList 0 .leaf [.oi 0]) ⟨0, .leaf⟩ = true := (by as_aux_lemma => kernel_rfl)
theorem yesC {m : Int} (hx : m.tmod 40 = 0) (w : World) : Calls Tryz.prog 5 #[.int .i64 m] w fun e w' => e = .returned (.bool true) ∧ Below w.heap.size w w' := by
  refine yes_calls Tryz.func5 bodyL0 w ?_
  letI : Tab := ((RC hx).tab)
  have s0 := @St.start ((RC hx).tab) [.oi 0] #[.int .i64 m] (Tryz.f5.ntmps) w ⟨fun g o a h => (by cases h), fun i m a h => (by cases h)⟩ (@vrels_cons ((RC hx).tab) _ _ _ _ _ (by simp only [vrel]; rfl) (by simp [vrels])) (show 1 ≤ Tryz.f5.ntmps by decide +kernel) (show 1 < limit by decide)
  exact runTrue_sound (T := ((RC hx).tab)) mixed0 (HandOk.or (inHand_ok cr0 (by kernel_rfl)) K_top0_ok) (runC hx) s0
end Go.Proofs.YtbgkinjicnnkiaaGreatDoor.sc
