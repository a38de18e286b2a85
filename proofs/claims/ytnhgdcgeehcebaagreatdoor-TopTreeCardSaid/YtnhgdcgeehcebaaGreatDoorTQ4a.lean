/-
  Contracts of calls, by the kernel.
-/
import Derived.Test.YtnhgdcgeehcebaaGreatDoorXN3
import Derived.Test.YtnhgdcgeehcebaaGreatDoorProg
import Derived.KernelRfl
import Derived.Test.YtnhgdcgeehcebaaGreatDoorTQ0a
import Derived.Test.YtnhgdcgeehcebaaGreatDoorTQ1a
import Derived.Test.YtnhgdcgeehcebaaGreatDoorTQ2a
import Derived.Test.YtnhgdcgeehcebaaGreatDoorTQ3a
set_option linter.unusedSectionVars false
set_option linter.unusedVariables false
set_option maxRecDepth 1000000
set_option maxHeartbeats 0
namespace Go.Proofs.YtnhgdcgeehcebaaGreatDoor.tq
open Go.X Go.RowKit
variable [Tab]
noncomputable def K_TQ4a:Hand:=((H_TQ3a).or ((H_TQ2a).or ((H_TQ1a).or H_TQ0a)))
theorem K_TQ4a_ok:HandOk Tryz.prog K_TQ4a:=(HandOk.or H_TQ3a_ok (HandOk.or H_TQ2a_ok (HandOk.or H_TQ1a_ok H_TQ0a_ok)))
noncomputable def I14761:In:=⟨63,[(.ptr 15192 0)],15193,[q147,q148,(15191,(.cells 8 false [] (T.ofList 0 .leaf [(.int .i64 52),.nils,(.int .i64 0),(.str 0 0),(.str 0 0),.nils,.nils,.nils]))),q149],(.tup []),17611,[q147,q10,q149,q48,q55,q143,q56,q22,q142,q23,q11,q12]⟩
theorem I14761_ok:InOk Tryz.prog I14761:=InOk.of_run (K:=K_TQ4a) (n:=5000) mixed K_TQ4a_ok (by kernel_rfl) (by as_aux_lemma=>kernel_rfl)
noncomputable def I10435:In:=⟨43,[(.ptr 7730 0)],10982,[(7728,(.map [] 0)),q43,q152,q153,q154,q45,q155,q156,q157,q158],(.ptr 14333 0),14554,[(7728,(.map [] 0)),q43,q152,q153,q154,q45,q155,q156,q157,q158,q136,q0,q159,(10986,(.map [] 0)),(10987,(.map [] 0)),q137,q5,q115,q160,(14330,(.map [] 0)),(14331,(.map [] 0)),(14332,(.map [] 0)),q161,(14452,(.cells 1 true [] (T.ofList 0 .leaf [(.int .u8 76)]))),(14548,(.cells 1 true [] (T.ofList 0 .leaf [(.int .u8 76)]))),q1,q2,q3]⟩
theorem I10435_ok:InOk Tryz.prog I10435:=InOk.of_run (K:=K_TQ4a) (n:=5000) mixed K_TQ4a_ok (by kernel_rfl) (by as_aux_lemma=>kernel_rfl)
noncomputable def I3015:In:=⟨43,[(.ptr 3 0)],3255,[(1,(.map [] 0)),q269,q270,q271,q272,q273,q274,q275,q276,q277],(.ptr 6606 0),6827,[(1,(.map [] 0)),q269,q270,q271,q272,q273,q274,q275,q276,q277,q259,(3258,(.cells 3 false [] (T.ofList 0 .leaf [(.ptr 3256 0),.nils,(.map 3257)]))),(3262,(.cells 7 false [] (T.ofList 0 .leaf [(.ptr 3256 0),(.ptr 3258 0),(.ptr 3 0),(.so 3976 0 39 3),.nils,(.bool false),(.bool false)]))),(6602,(.cells 4 false [] (T.ofList 0 .leaf [.nils,.nils,.nils,(.int .i64 0)]))),(6603,(.map [] 0)),(6606,(.cells 32 false [] (T.ofList 0 .leaf [(.ptr 3 0),(.ptr 3261 0),(.ptr 3256 0),(.ptr 3258 0),(.ptr 3262 0),(.ptr 6602 0),.nils,(.map 6603),(.map 6604),.nils,(.int .i64 1),(.int .i64 3),(.int .i64 6),(.int .i64 0),.nilp,(.bool false),(.int .i64 0),(.int .i64 0),(.int .i64 0),(.int .i64 0),(.int .i64 0),(.int .i64 0),(.int .u8 0),(.int .i64 0),(.str 0 0),(.str 0 0),(.bool false),(.int .i64 0),.nils,(.int .i64 0),(.int .i64 0),(.map 6605)]))),(6725,(.cells 1 true [] (T.ofList 0 .leaf [(.int .u8 76)]))),(6821,(.cells 1 true [] (T.ofList 0 .leaf [(.int .u8 76)]))),q260,q261,q262]⟩
theorem I3015_ok:InOk Tryz.prog I3015:=InOk.of_run (K:=K_TQ4a) (n:=5000) mixed K_TQ4a_ok (by kernel_rfl) (by as_aux_lemma=>kernel_rfl)
noncomputable def H_TQ4a:Hand:=((Hand.at 43 ((inHand I3015).or (inHand I10435))).or (Hand.at 63 (inHand I14761)))
theorem H_TQ4a_ok:HandOk Tryz.prog H_TQ4a:=(HandOk.or (HandOk.at 43 (HandOk.or (inHand_ok I3015_ok (by kernel_rfl)) (inHand_ok I10435_ok (by kernel_rfl)))) (HandOk.at 63 (inHand_ok I14761_ok (by kernel_rfl))))
end Go.Proofs.YtnhgdcgeehcebaaGreatDoor.tq
