/-
  First steps of the machine within the law TopTree.
-/
import Derived.Test.YtnhgdcgeehcebaaGreatDoorTU0
import Derived.Test.YtnhgdcgeehcebaaGreatDoorTQT0
import Derived.Test.YtnhgdcgeehcebaaGreatDoorXN3
import Derived.Test.YtnhgdcgeehcebaaGreatDoorTTM
import Derived.Test.YtnhgdcgeehcebaaGreatDoorProg
import Derived.KernelRfl
set_option linter.unusedSectionVars false
set_option linter.unusedVariables false
set_option maxRecDepth 1000000
set_option maxHeartbeats 0
namespace Go.Proofs.YtnhgdcgeehcebaaGreatDoor.tt
open Go.X Go.RowKit Go.Proofs.YtnhgdcgeehcebaaGreatDoor
section
variable {B:Kp} {w0:World} {μ:M} {a:Act} {w:World}
abbrev RS {v:Int} (h1:1≤v) (h2:v≤20):VRows (ivB v) (vvB v) (vkB v) where
  vvp:=vpB v
  ib:=[(13,.oi 0,.int .i64 0,.bool true)]
  ibok:=by as_aux_lemma=>letI:=Tab.empty;exact (eG ibNil)
theorem goS {v:Int} (h1:1≤v) (h2:v≤20) {rv:Nat→Value} (hb:Base B μ 20000) {Q:Exit→Act→World→Prop} {j_:Nat} (s_:SB v rv B w0 μ a w) (hQ:∀ a' w',SS2 v rv B w0 μ a' w'→Code.rounds Tryz.prog la Q j_ a' w'):Code.rounds Tryz.prog la Q (j_+12) a w :=
  goT hQ s_ (RS h1 h2) hb [(20000,17617),(20001,21955),(20002,21956),(20003,21923),(20004,21926),(20005,21252),(20006,21126),(20021,21763),(20022,21765),(20031,21448),(20032,21682),(20033,21760),(20034,21762),(20035,21110),(20036,21115),(20037,21114)] [(.int .i64 4,0),(.int .i64 2,1),(.oi 0,2)] (ipCons (ipK (show (IntKind.i64,((4:Nat):Int))=(IntKind.i64,4) from Prod.ext rfl (show (((4:Nat):Int):Int)=4 by omega))) (ipCons (ipK (show (IntKind.i64,((2:Nat):Int))=(IntKind.i64,2) from Prod.ext rfl (show (((2:Nat):Int):Int)=2 by omega))) (nN ipNil))) [(21955,.cells 6 true [] (T.ofList 0 .leaf y199),0),(21956,.cells 6 true [] (T.ofList 0 .leaf y200),1),(21923,.cells 21 true [] (T.ofList 0 .leaf y201),2),(21926,.cells 3 true [] (T.ofList 0 .leaf [(.ptr 21126 0),(.ptr 21252 0),(.ptr 21924 0)]),3)] (fun hip=>(vpCons (vpCells (T:=((RS (v:=v) h1 h2).rtab rv)) (T':=(PS2 v rv)) (c:=0) (L:=y199) (L':=y18) (i':=0) hip rfl rfl (by decide) (show pk 0 y18≤6 from by decide) (by kernel_rfl)) (vpCons (vpCells (T:=((RS (v:=v) h1 h2).rtab rv)) (T':=(PS2 v rv)) (c:=1) (L:=y200) (L':=y8) (i':=1) hip rfl rfl (by decide) (show pk 0 y8≤6 from by decide) (by kernel_rfl)) (vpCons (vpCells (T:=((RS (v:=v) h1 h2).rtab rv)) (T':=(PS2 v rv)) (c:=2) (L:=y201) (L':=y14) (i':=2) hip rfl rfl (by decide) (show pk 0 y14≤21 from by decide) (by kernel_rfl)) (vpCons (vpCells (T:=((RS (v:=v) h1 h2).rtab rv)) (T':=(PS2 v rv)) (c:=3) (L:=[(.ptr 21126 0),(.ptr 21252 0),(.ptr 21924 0)]) (L':=y4) (i':=3) hip rfl rfl (by decide) (show pk 0 y4≤3 from by decide) (by kernel_rfl)) vpNil))))) Go.Proofs.YtnhgdcgeehcebaaGreatDoor.tq.K_top0 (@Go.Proofs.YtnhgdcgeehcebaaGreatDoor.tq.K_top0_ok ((RS h1 h2).rtab rv)) 12
end
end Go.Proofs.YtnhgdcgeehcebaaGreatDoor.tt
