/-
  The law TopTree at numbers that go to 0.
-/
import Derived.Test.YtnhgdcgeehcebaaGreatDoorTQT0
import Derived.Test.YtnhgdcgeehcebaaGreatDoorXN3
import Derived.Test.YtnhgdcgeehcebaaGreatDoorTTS
set_option linter.unusedSectionVars false
set_option linter.unusedVariables false
set_option maxRecDepth 1000000
set_option maxHeartbeats 0
namespace Go.Proofs.YtnhgdcgeehcebaaGreatDoor.tv
open Go.X Go.RowKit Go.Proofs.YtnhgdcgeehcebaaGreatDoor.tq Go.Proofs.YtnhgdcgeehcebaaGreatDoor
noncomputable def fullL0:Code:=(Tryz.f3.body).getD .skip
theorem bodyL0:Tryz.f3.body=some fullL0:=by kernel_rfl
abbrev ivC0 (m:Int):Nat→IntKind×Int
  | 0=>(.i64,m)
  | _=>(.i64,0)
theorem ibC0 {m:Int} (hx:m.tmod 9=0):∀ x_∈([(4,.oi 0,.int .i64 9,.int .i64 0)]:List BRow),IbOk (ivC0 m) x_:=by
  letI:=Tab.empty
  exact (ibCons (ibRem (a:=m) (b:=9) (c:=0) rfl rfl rfl (by decide) hx) ibNil)
abbrev RC0 {m:Int} (hx:m.tmod 9=0):VRows (ivC0 m) noV noK where
  vvp:=noVp
  ib:=[(4,.oi 0,.int .i64 9,.int .i64 0)]
  ibok:=ibC0 hx
theorem runC0 {m:Int} (hx:m.tmod 9=0):runTrue ((RC0 hx).tab) Tryz.prog K_top0 5000 Tryz.f3 fullL0 (T.ofList 0 .leaf [.oi 0]) ⟨0,.leaf⟩=true:=(by as_aux_lemma=>kernel_rfl)
theorem yesC0 {m:Int} (hx:m.tmod 9=0) (w:World):Calls Tryz.prog 3 #[.int .i64 m] w fun e w'=>e = .returned (.bool true)∧Below w.heap.size w w':=by
  refine yes_calls Tryz.func3 bodyL0 w ?_
  letI:Tab:=(RC0 hx).tab
  have s0:=@St.start ((RC0 hx).tab) [.oi 0] #[.int .i64 m] (Tryz.f3.ntmps) w ⟨fun g o a h=>(by cases h),fun i m a h=>(by cases h)⟩ (@vrels_cons ((RC0 hx).tab) _ _ _ _ _ (by simp only [vrel];rfl) (by simp [vrels])) (show 1≤Tryz.f3.ntmps by decide +kernel) (show 1<limit by decide)
  exact runTrue_sound (T:=(RC0 hx).tab) tt.mixed K_top0_ok (runC0 hx) s0
end Go.Proofs.YtnhgdcgeehcebaaGreatDoor.tv
