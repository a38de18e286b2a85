/-
  Contracts of calls, by the kernel.
-/
import Derived.Test.YtnhgdcgeehcebaaGreatDoorXN3
import Derived.Test.YtnhgdcgeehcebaaGreatDoorProg
import Derived.KernelRfl
import Derived.Test.YtnhgdcgeehcebaaGreatDoorTQ0a
import Derived.Test.YtnhgdcgeehcebaaGreatDoorTQ1a
import Derived.Test.YtnhgdcgeehcebaaGreatDoorTQ2a
set_option linter.unusedSectionVars false
set_option linter.unusedVariables false
set_option maxRecDepth 1000000
set_option maxHeartbeats 0
namespace Go.Proofs.YtnhgdcgeehcebaaGreatDoor.tq
open Go.X Go.RowKit
variable [Tab]
noncomputable def K_TQ3a:Hand:=((H_TQ2a).or ((H_TQ1a).or H_TQ0a))
theorem K_TQ3a_ok:HandOk Tryz.prog K_TQ3a:=(HandOk.or H_TQ2a_ok (HandOk.or H_TQ1a_ok H_TQ0a_ok))
noncomputable def I42149:In:=⟨47,[(.ptr 14333 0)],21452,[q52,q53,q54,q10,q55,q56,q11,q12,q57,q58,q59,q51,q17,q60],(.bool true),21536,[q6,q46,q47,q10,q55,q56,q11,q12,q49,q50,q51,q17,q32]⟩
theorem I42149_ok:InOk Tryz.prog I42149:=InOk.of_run (K:=K_TQ3a) (n:=5000) mixed K_TQ3a_ok (by kernel_rfl) (by as_aux_lemma=>kernel_rfl)
noncomputable def I41906:In:=⟨47,[(.ptr 14333 0)],21159,[q42,q43,q44,q45,q86,q7,(14331,(.map [((.str 1 77),(.int .i64 0),0)] 1)),q87,q88,q10,q48,q55,q56,q11,q12,q13,q89,q90,(21128,(.cells 1 true [] (T.ofList 0 .leaf [(.ptr 21126 0)]))),q91,q92],(.bool true),21256,[q42,q43,q44,q45,q79,q7,(14331,(.map [((.str 1 77),(.int .i64 0),0)] 1)),q80,q81,q10,q48,q55,q56,q11,q12,q13,q57,q82,q83,q84,q85,q51]⟩
theorem I41906_ok:InOk Tryz.prog I41906:=InOk.of_run (K:=K_TQ3a) (n:=5000) mixed K_TQ3a_ok (by kernel_rfl) (by as_aux_lemma=>kernel_rfl)
noncomputable def I19026:In:=⟨47,[(.ptr 14333 0)],21159,[q42,q43,q44,q45,q86,q7,(14331,(.map [((.str 1 77),(.int .i64 0),0)] 1)),q87,q88,q10,q48,q55,q56,q11,q12,q13,q89,q90,(21128,(.cells 1 true [] (T.ofList 0 .leaf [(.ptr 21126 0)]))),(21148,(.cells 2 true [] (T.ofList 0 .leaf [(.oi 1),(.oi 1)]))),q92],(.bool true),21256,[q42,q43,q44,q45,q79,q7,(14331,(.map [((.str 1 77),(.int .i64 0),0)] 1)),q80,q81,q10,q48,q55,q56,q11,q12,q13,q57,q82,q141,q84,q85,q51]⟩
theorem I19026_ok:InOk Tryz.prog I19026:=InOk.of_run (K:=K_TQ3a) (n:=5000) mixed K_TQ3a_ok (by kernel_rfl) (by as_aux_lemma=>kernel_rfl)
noncomputable def I16977:In:=⟨282,[(.ptr 7730 0),(.ptr 15191 0),(.int .i64 0)],17626,[q10,q48,q55,q143,q56,q12],(.tup [(.so 19426 0 24 3),(.bool true)]),19478,[q10,q48,q55,q143,q56,q12]⟩
theorem I16977_ok:InOk Tryz.prog I16977:=InOk.of_run (K:=K_TQ3a) (n:=5000) mixed K_TQ3a_ok (by kernel_rfl) (by as_aux_lemma=>kernel_rfl)
noncomputable def I14762:In:=⟨98,[(.ptr 15190 0)],15193,[q147,q148],(.tup [(.sl 15193 0 30 30),(.bool true)]),15855,[q147,(15190,(.cells 3 false [] (T.ofList 0 .leaf [(.so 15189 0 384 1),(.int .i64 185),(.bool false)]))),q48]⟩
theorem I14762_ok:InOk Tryz.prog I14762:=InOk.of_run (K:=K_TQ3a) (n:=5000) mixed K_TQ3a_ok (by kernel_rfl) (by as_aux_lemma=>kernel_rfl)
noncomputable def S5287:Sum:=⟨(.tup [(.so 5 0 1 4),(.agg [(.int .u8 76),(.str 23 10956966084090815260342509131105871416374185281426186602),(.int .i64 0),(.int .u8 0)]),(.bool true)]),61,[q265]⟩
theorem S5287_ok:SumOk Tryz.prog 111 [(.str 28 6260485019439425252614312435813236600861718953314767591699208821288)] S5287:=SumOk.of_run (K:=K_TQ3a) (n:=5000) (keep:=[5]) mixed K_TQ3a_ok (by kernel_rfl) (by as_aux_lemma=>kernel_rfl)
noncomputable def S5188:Sum:=⟨(.tup [(.so 5 0 1 4),(.agg [(.int .u8 76),(.str 23 10956966084090815260342509131105871416374185281426186602),(.int .i64 0),(.int .u8 0)]),(.bool true)]),61,[q266]⟩
theorem S5188_ok:SumOk Tryz.prog 111 [(.str 28 6260485019439425252614312435813236600861718953314767591699208815400)] S5188:=SumOk.of_run (K:=K_TQ3a) (n:=5000) (keep:=[5]) mixed K_TQ3a_ok (by kernel_rfl) (by as_aux_lemma=>kernel_rfl)
noncomputable def S5090:Sum:=⟨(.tup [(.so 5 0 1 4),(.agg [(.int .u8 76),(.str 23 10956966084090815260342509131105871416374185281426186602),(.int .i64 0),(.int .u8 0)]),(.bool true)]),61,[q267]⟩
theorem S5090_ok:SumOk Tryz.prog 111 [(.str 28 6260485019439425252614312435813236600861718953314767591699208817192)] S5090:=SumOk.of_run (K:=K_TQ3a) (n:=5000) (keep:=[5]) mixed K_TQ3a_ok (by kernel_rfl) (by as_aux_lemma=>kernel_rfl)
noncomputable def S4993:Sum:=⟨(.tup [(.so 5 0 1 4),(.agg [(.int .u8 76),(.str 23 10956966084090815260342509131105871416374185281426186602),(.int .i64 0),(.int .u8 0)]),(.bool true)]),61,[q144]⟩
theorem S4993_ok:SumOk Tryz.prog 111 [(.str 28 6260485019439425252614312435813236600861718953314767591699208816936)] S4993:=SumOk.of_run (K:=K_TQ3a) (n:=5000) (keep:=[5]) mixed K_TQ3a_ok (by kernel_rfl) (by as_aux_lemma=>kernel_rfl)
noncomputable def S4826:Sum:=⟨(.tup [(.so 40 0 1 4),(.agg [(.int .u8 76),(.str 23 10956966084090815260342509131105871416374185281426186602),(.int .i64 0),(.int .u8 0)]),(.bool true)]),96,[q268]⟩
theorem S4826_ok:SumOk Tryz.prog 111 [(.str 45 545365161084908818682307871509240926086432362262523517738950247884810123871997999633158636370693479484509224)] S4826:=SumOk.of_run (K:=K_TQ3a) (n:=5000) (keep:=[40]) mixed K_TQ3a_ok (by kernel_rfl) (by as_aux_lemma=>kernel_rfl)
noncomputable def tab_TQ3a:List (FuncId×SRows):=(111,[([(.str 28 6260485019439425252614312435813236600861718953314767591699208821288)],S5287),([(.str 28 6260485019439425252614312435813236600861718953314767591699208815400)],S5188),([(.str 28 6260485019439425252614312435813236600861718953314767591699208817192)],S5090),([(.str 28 6260485019439425252614312435813236600861718953314767591699208816936)],S4993),([(.str 45 545365161084908818682307871509240926086432362262523517738950247884810123871997999633158636370693479484509224)],S4826)])::[]
theorem tab_TQ3a_ok:TabOk Tryz.prog tab_TQ3a:=(TabOk.cons (RowsOk.cons S5287_ok (RowsOk.cons S5188_ok (RowsOk.cons S5090_ok (RowsOk.cons S4993_ok (RowsOk.cons S4826_ok RowsOk.nil))))) TabOk.nil)
noncomputable def H_TQ3a:Hand:=(((Hand.at 98 (inHand I14762)).or ((Hand.at 282 (inHand I16977)).or (Hand.at 47 (Hand.sp 21160 ((inHand I19026).or (inHand I41906)) (inHand I42149))))).or (sumsHand tab_TQ3a))
theorem H_TQ3a_ok:HandOk Tryz.prog H_TQ3a:=(HandOk.or (HandOk.or (HandOk.at 98 (inHand_ok I14762_ok (by kernel_rfl))) (HandOk.or (HandOk.at 282 (inHand_ok I16977_ok (by kernel_rfl))) (HandOk.at 47 (HandOk.sp 21160 (HandOk.or (inHand_ok I19026_ok (by kernel_rfl)) (inHand_ok I41906_ok (by kernel_rfl))) (inHand_ok I42149_ok (by kernel_rfl)))))) (sumsHand_ok tab_TQ3a_ok))
end Go.Proofs.YtnhgdcgeehcebaaGreatDoor.tq
