/-
  Contracts of calls, by the kernel.
-/
import Derived.Test.YtnhgdcgeehcebaaGreatDoorXN3
import Derived.Test.YtnhgdcgeehcebaaGreatDoorProg
import Derived.KernelRfl
import Derived.Test.YtnhgdcgeehcebaaGreatDoorTQ0a
import Derived.Test.YtnhgdcgeehcebaaGreatDoorTQ1a
import Derived.Test.YtnhgdcgeehcebaaGreatDoorTQ2a
import Derived.Test.YtnhgdcgeehcebaaGreatDoorTQ4a
set_option linter.unusedSectionVars false
set_option linter.unusedVariables false
set_option maxRecDepth 1000000
set_option maxHeartbeats 0
namespace Go.Proofs.YtnhgdcgeehcebaaGreatDoor.tq
open Go.X Go.RowKit
variable [Tab]
noncomputable def K_TQ5a:Hand:=((H_TQ4a).or ((H_TQ2a).or ((H_TQ1a).or H_TQ0a)))
theorem K_TQ5a_ok:HandOk Tryz.prog K_TQ5a:=(HandOk.or H_TQ4a_ok (HandOk.or H_TQ2a_ok (HandOk.or H_TQ1a_ok H_TQ0a_ok)))
noncomputable def I7423:In:=⟨23,[(.sl 7727 0 2 2)],7728,[q162,q163,q164,q165,q166,q167,q168,q169,q170,q171,q172,q173,q174,q175,q176,q177,q178,q179,q180,q181,q182,q183,q184,q185,q186,q187,q188,q189,q190,q191,q192,q193,q194,q195,q196,q197,q198,q199,q200,q201,q202,q203,q204,q205,q206,q207,q208,q209,q210],(.ptr 14555 0),17613,[q163,q164,q165,q166,q167,q168,q169,q170,q171,q172,q173,q177,q179,q180,q181,q182,q183,q184,q185,q186,q187,q188,q189,q190,q191,q192,q193,q194,q195,q196,q197,q198,q199,q200,q201,q202,q203,q204,q205,q209,q210,q42,q43,q44,q45,q114,q136,q0,q159,(10986,(.map [] 0)),(10987,(.map [] 0)),q137,q5,q115,q160,(14330,(.map [] 0)),(14331,(.map [] 0)),(14332,(.map [] 0)),q161,(14452,(.cells 1 true [] (T.ofList 0 .leaf [(.int .u8 76)]))),(14548,(.cells 1 true [] (T.ofList 0 .leaf [(.int .u8 76)]))),q1,q2,q3,(14554,(.cells 2 false [] (T.ofList 0 .leaf [(.ptr 7730 0),(.ptr 14333 0)]))),(14555,(.cells 2 false [] (T.ofList 0 .leaf [(.ptr 14554 0),(.bool true)]))),q105,q119,q138,q106,q107,q10,q48,q55,q143,q56,q22,q142,q23,q11,q12]⟩
theorem I7423_ok:InOk Tryz.prog I7423:=InOk.of_run (K:=K_TQ5a) (n:=5000) mixed K_TQ5a_ok (by kernel_rfl) (by as_aux_lemma=>kernel_rfl)
noncomputable def S2:Sum:=⟨(.bool true),6868,[]⟩
theorem S2_ok:SumOk Tryz.prog 28 [] S2:=SumOk.of_run (K:=K_TQ5a) (n:=5000) (keep:=[]) mixed K_TQ5a_ok (by kernel_rfl) (by as_aux_lemma=>kernel_rfl)
noncomputable def tab_TQ5a:List (FuncId×SRows):=(28,[([],S2)])::[]
theorem tab_TQ5a_ok:TabOk Tryz.prog tab_TQ5a:=(TabOk.cons (RowsOk.cons S2_ok RowsOk.nil) TabOk.nil)
noncomputable def H_TQ5a:Hand:=((Hand.at 23 (inHand I7423)).or (sumsHand tab_TQ5a))
theorem H_TQ5a_ok:HandOk Tryz.prog H_TQ5a:=(HandOk.or (HandOk.at 23 (inHand_ok I7423_ok (by kernel_rfl))) (sumsHand_ok tab_TQ5a_ok))
end Go.Proofs.YtnhgdcgeehcebaaGreatDoor.tq
